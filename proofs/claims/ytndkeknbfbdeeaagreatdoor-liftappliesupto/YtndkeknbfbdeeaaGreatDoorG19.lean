/- A part of the proof that LiftApplies answers true. -/
import Derived.Test.YtndkeknbfbdeeaaGreatDoorG18
import Derived.Test.YtndkeknbfbdeeaaGreatDoorG17
import Derived.Sort.OwnSortedInts
import Derived.Lib.RowBridge
import Derived.WalkKit
import Derived.Shelf.Abstract
set_option linter.all false
set_option maxHeartbeats 4000000
set_option maxRecDepth 100000
namespace Go.Proofs.YtndkeknbfbdeeaaGreatDoor
open Go
variable {zs:F6}{v:Value}
mutual
def tD:Te->Nat
 | .mk _ _ _ _ _ _ _ l=>So l+1
def So:List Te->Nat
 | []=>0
 |t::l=>max (tD t) (So l)
end
def xi(t:Te):tD t=So t.l+1:=by cases t;rw[tD]; rfl
def Bqj{l:Na}{x:Te}(h:x∈l):tD x<=So l:=by
 induction l with
 |nil=>cases h
 |cons t l ih=>
  rw[So];rcases List.mem_cons.1 h with rfl|h
  . omega
  have:=ih h;omega
def A1h:∀(h h':Nat) (t:Te),Ds h t->tD t<=h'->Ds h' t
 |0,_,_,h,_=>h.elim
 |h+1,0,t,_,h2=>by rw[xi]at h2;omega
 |h+1,h'+1,t,h1,h2=>by
  rw[xi]at h2;exact⟨h1.1,fun x hx=>A1h h h' x (h1.2 x hx) (by have:=Bqj hx;omega)⟩
def Agl:wT Cj=1:=Di
def Afy:tD Cj=1:=Di
mutual
def Arj(f:Cn->Int->Int->Cn×Int)(g:Int->Int->Int->Te×Int)(hf:∀c a b,Al (f c a b).1<=Al c)(hg:∀n a b,wT (g n a b).1<=1/\tD (g n a b).1<=1):∀(t:Te) (a b:Int),wT (Mt f g t a b).1<=wT t/\tD (Mt f g t a b).1<=tD t
 | .mk op n s con tto k ns l,a,b=>by
   have hp:=Wg (.mk op n s con tto k ns l);have hq:=xi (.mk op n s con tto k ns l);rw[Mt];split
   . have:=hg n a b;omega
   split
   . simp only[Agl,Afy]; omega
   split
   . simp only[Agl,Afy]; omega
   split
   . simp only[Agl,Afy]; omega
   have h1:=Ark f g hf hg op l 0 a b;have h2:=hf con a b;have h3:=hf tto a b
   have e1:(if Dj op=true then(Al (if Dj op=true then(f con a b).1 else A3):Int)else 0)<=if Dj op=true then(Al con:Int)else 0:=by
    by_cases h:Dj op=true
    . simp only[Ae h]; omega
    simp only[Ac h]; omega
   have e2:(if op=8 then(Al (if op=8 then(f tto a b).1 else A3):Int)else 0)<=if op=8 then(Al tto:Int)else 0:=by
    by_cases h:op=8
    . simp only[Ae h]; omega
    simp only[Ac h]; omega
   simp only[wT,tD,Lt,Te.op,Te.con,Te.to];exact⟨Ag0 (Ag0 (Ag0 (eh _) e1) e2) h1.1,Aa⟩
def Ark(f:Cn->Int->Int->Cn×Int)(g:Int->Int->Int->Te×Int)(hf:∀c a b,Al (f c a b).1<=Al c)(hg:∀n a b,wT (g n a b).1<=1/\tD (g n a b).1<=1)(op:Int):∀(l:List Te) (i:Nat) (a b:Int),Hi (J7 f g op l i a b).1<=Hi l/\So (J7 f g op l i a b).1<=So l
 | [],_,_,_=>by simp[J7]
 |x::xs,i,a,b=>by
  have h1:=Arj f g hf hg x (Hd op i a b).1 (Hd op i a b).2;have h2:=Ark f g hf hg op xs (i+1) a b;have h3:=Wg x;have h4:=pj xs;rw[J7];split
  . simp only[Hi,So]; omega
  simp only[Hi,So]; omega
end
def Bo8(c:Cn)(d fr:Int):Al (Ed c d fr).1<=Al c:=by
 have hz:Al A3=1:=by simp[A3,Al,Bd]
 have hp:=Ir c;unfold Ed;split
 . unfold Ki;split
   . simp only[hz]; omega
   exact Ae8 _ (fun c bd=>by
    unfold K8;split
    . simp[Ch,Al,Bd]
    simp[W5,Al,Bd]) c 0 20000
 simp only[hz]; omega
def Bsm(n:Int):wT (Nz n)<=1/\tD (Nz n)<=1:=⟨by rw[ph]; simp[Nz,Lt,Te.op,Te.l,Hi,Dj],by rw[xi]; simp[Nz,Te.l,So]⟩
section
attribute [-simp] Int.not_lt Int.not_le
attribute [local simp] Cb Cq
def Bq0(c:Cn)(hc:Al c<=1000000000000):Hc 175 [Ad c] (.bool !Ar c):=by
 refine Hg Bi9 fun Q hQ=>?_;simp[Ad];refine Ca (Lc c hc) ?_;simp;exact hQ
def dm(l:List Cn)(c:Cn)(a _b:Int):Cn×Int:=if Ar c=true then(rp l c a,0)else(A3,0)
def Bn9(l:Ax)(c:Cn)(a b:Int):Al (dm l c a b).1<=1000000000000:=by
 unfold dm;split
 . rename_i h;have:=Az8 l c a;have:=Kn h;simp only;omega
 decide
def Bq1(l:Ax)(hz:∀x∈l,Al x<=1000000000000)(c:Cn)(a b:Int)(A:Ai)(i:Nat)(hi:A[i]? =some (.var [.sl .none (l.map Ag)]))(A8:Be A.length A=true)
 (hv:Ar c=true) (h0:0<=a) (hd:a<=1000):
 HP 177 [Ad c,C2 a b,.ptr i 0] A (Bf (dm l c a b)) A:=by
 have Jj:=(List.getElem?_eq_some_iff.1 hi).1;have Fa:∀L:Ai,(A++L)[i]? =some (.var [.sl .none (l.map Ag)]):=fun L=>by rw[D5 Jj]; exact hi
 have Xm:Bo c<=400:=by simp only[Ar,Bb,Aw]at hv;exact hv.2.1
 have Br:=A1x l hz c a h0 Aa;rw[dm,Ae hv];generalize rp l c a=r at Br ⊢;refine Hg Bja fun Q hQ=>?_;simp[Ad,Ap c,C2,Fa];refine Ca Br ?_;simp[Ad,Ap r];exact hQ (by simp[A8,Bf,Ad,Ap r])
def Bq2(n a b:Int)(A:Ai)(A8:Be A.length A=true):HP 179 [.int .i64 n,C2 a b] A (Cf (Nz n,0)) A:=by
 refine Hg Bjb fun Q hQ=>?_;simp[C2];exact hQ (by simp[Cf,Ah,Af4,A8])
def Hy:List AV:=[.int .i64 0,.int .i64 0,.str [],.int .i64 0,.int .i64 0,.str [],.sl .nilT [],.sl .nilT [],.sl .nilT [],.int .i64 0,.int .i64 0,.str [],.sl .nilT [],.sl .nilT [],.sl .nilT [],.sl .nilT [],.sl .nilT [],.sl .nilT []]
def Bq3(t:Te)(l:Ax)(hb:Dg t)(hz:∀x∈l,Al x<=1000000000000):∃p,Hc 103 [Ah t,.sl .none (l.map Ag)] (Cf p)/\(p.2=0->Ds 400 p.1)/\(p.2≠0->p.1=Cj)/\(p.2=0->wT p.1<=20000)/\(Ds 400 t->wT t<=20000->l.all Ar=true->l.length<=1000->p.2=0\/p.2=6):=by
 have Fy:Hc 84 [.sl .none (l.map Ag),.fn (.func 175) [] []] (.bool !l.all Ar):=by
  have h:=U9 l (fun x=>!Ar x) 175 fun x hx=>Bq0 x (hz x hx);rw[Rs]at h;exact h
 obtain⟨b,hv,hok⟩:=d8 t hb
 cases b with
 |false=>
  refine⟨(Cj,1),?_,Ab,Ab,Ab,fun a b=>by cases hok.2 ⟨a,b⟩⟩;refine Hg vv fun Q hQ=>?_;simp[Ah,Aq t];refine Ca hv ?_;simp
  exact hQ (by simp[Cf,Ah,Km])
 |true=>
 generalize Y1:l.all Ar=av at Fy
 cases av with
 |false=>
  refine⟨(Cj,1),?_,Ab,Ab,Ab,fun _ _ a=>by cases a⟩;refine Hg vv fun Q hQ=>?_;simp[Ah,Aq t];refine Ca hv ?_;simp;refine Ca Fy ?_;simp
  exact hQ (by simp[Cf,Ah,Km])
 |true=>
 by_cases hl:1000<l.length
 . have Ci:(1000:Int)<(l.length:Int):=by omega
   refine⟨(Cj,5),?_,Ab,Ab,Ab,fun _ _ _ h=>Aa⟩;refine Hg vv fun Q hQ=>?_;simp[Ah,Aq t];refine Ca hv ?_;simp;refine Ca Fy ?_;simp[Ci];exact hQ (by simp[Cf,Ah,Km])
 have Ci:¬(1000:Int)<(l.length:Int):=Aa
 have Md:=Af5 177 179 [.ptr 1 0] [] [.var (Bi t),.var [.sl .none (l.map Ag)],.var Hy] (dm l) (fun n _ _=>(Nz n,0))
  {con:=fun c a b hc g0 _ g1 _=>Bq1 l hz c a b _ 1 rfl (by simp[Be,A0,D9,AV.inScope,Hy,Aq t]) hc g0 g1
   var:=fun n a b _ _ _ _ _ _=>by simpa using Bq2 n a b _ (by simp[Be,A0,D9,AV.inScope,Hy,Aq t])
   vars:=fun b hb=>match b,hb with
    |0,_=>⟨_,rfl⟩
    |1,_=>⟨_,rfl⟩
    |2,_=>⟨_,rfl⟩
   sc:=fun n _=>by simp[Be,A0,D9,AV.inScope,Hy,Aq t]
   c1:=fun n hn=>by simp only[Gq,Ox]at hn;simp[A0,AV.inScope]; omega
   c2:=fun n hn=>by simp[A0]} 400 t 0 0 (hok.1 rfl).1 Aa Aa Aa Aa
 have Gy:=Abh (dm l) (fun n _ _=>(Nz n,0)) (Bn9 l) (fun n _ _=>A1o n) t 0 0;generalize Mt (dm l) (fun n _ _=>(Nz n,0)) t 0 0=p at Md Gy;obtain⟨y,e⟩:=p;obtain⟨q,Li,hq1,hq2,bp,hq4⟩:=A1r y e Gy;refine⟨q,?_,hq1,hq2,fun h=>by rw[(bp h).1]; exact(bp h).2.1,fun _ _ _ _=>hq4⟩;clear hq1 hq2 bp hq4 Gy;obtain⟨z,g⟩:=q;refine Hg vv fun Q hQ=>?_;simp[Ah,Aq t];refine Ca hv ?_;simp;refine Ca Fy ?_;simp[Ci];refine C1 (r:=Cf (y,e)) (by simpa[Ah,Aq t,Hy,T9,C2]using Md) ?_;clear Md;simp[Cf,Ah,Aq y];refine Ca Li ?_;simp[Cf,Ah,Aq z];exact hQ (by simp[Cf,Ah,Aq z])
def St.reserve{F:Addr->Prop}{g:Gh}{A B:Ai}{w:World}(h:St F g (A++ .var [.sl .nilT []]::B) w):St F g (A++ .var [.sl (.lazy (A.length+(B.length+1))) []]::(B++[.mp Kj])) w:=by
 have hl:(A++HB.var [.sl .nilT []]::B).length=A.length+(B.length+1):=Ab
 have uc:∀b,b≠A.length->b≠A.length+(B.length+1)->(A++ .var [.sl (.lazy (A.length+(B.length+1))) []]::(B++[.mp Kj]))[b]? =(A++ .var [.sl .nilT []]::B)[b]?:=fun b h1 h2=>by
  by_cases hb:b<A.length
  . rw[D5 hb,D5 hb]
  rw[Hj Aa,Hj Aa];obtain⟨j,hj⟩:∃j,b-A.length=j+1:=⟨b-A.length-1,Aa⟩;rw[hj,Ts,Ts];by_cases hj2:j<B.length
  . rw[D5 hj2]
  rw[Im (by simp;omega),Im Aa]
 have iq:(A++ .var [.sl (.lazy (A.length+(B.length+1))) []]::(B++[.mp Kj]))[A.length]? =some (.var [.sl (.lazy (A.length+(B.length+1))) []]):=Ab;have hat0:(A++ .var [.sl .nilT []]::B)[A.length]? =some (.var [.sl .nilT []]):=Ab;have Vt:(A++ .var [.sl (.lazy (A.length+(B.length+1))) []]::(B++[.mp Kj]))[A.length+(B.length+1)]? =some (.mp Kj):=Ab;refine⟨h.live,fun b hb=>h.beyond b (by simp at hb ⊢; omega),h.inj,fun b cs hb=>?_,fun t n k ty ht=>?_,h.spots,fun b e cs hb=>?_,fun b ks hb=>?_⟩
 . by_cases h1:b=A.length
   . subst h1;rw[iq]at hb;obtain⟨X,vs,e,q1,q2,q3,q4,q5⟩:=h.var _ _ hat0;cases hb;refine⟨X,vs,e,q1,q2,q3,?_,q5⟩;simp only[RL,R]at q4 ⊢;obtain⟨v,r,e1,⟨m0,m1⟩,m2⟩:=q4;refine⟨v,r,e1,⟨m0,?_⟩,m2⟩;rcases m1 with⟨m3,m4,_,_⟩|⟨_,_,_,_,_,_,_,_,_,m5⟩
     . exact .inl ⟨m3,m4,Ab,Ab⟩
     exact absurd m5 (by simp[RT])
   by_cases h2:b=A.length+(B.length+1)
   . subst h2;rw[Vt]at hb;cases hb
   exact h.var b cs (by rw[<- uc b h1 h2]; exact hb)
 . by_cases h1:t=A.length
   . subst h1;rw[iq]at ht;cases ht
   by_cases h2:t=A.length+(B.length+1)
   . subst h2;rw[Vt]at ht;cases ht
   exact h.tok t n k ty (by rw[<- uc t h1 h2]; exact ht)
 . by_cases h1:b=A.length
   . subst h1;rw[iq]at hb;cases hb
   by_cases h2:b=A.length+(B.length+1)
   . subst h2;rw[Vt]at hb;cases hb
   exact h.tvar b e cs (by rw[<- uc b h1 h2]; exact hb)
 by_cases h1:b=A.length
 . subst h1;rw[iq]at hb;cases hb
 by_cases h2:b=A.length+(B.length+1)
 . subst h2;rw[Vt]at hb;cases hb;have:=h.beyond (A.length+(B.length+1)) (by rw[hl]; exact Bm _);exact .inl ⟨rfl,this⟩
 exact h.mp b ks (by rw[<- uc b h1 h2]; exact hb)
def Bn.unreserve{F F':Addr->Prop}{g g':Gh}{A B H':Ai}{w w':World}{x y:HB}(hs:St F g (A++x::B) w)(h:Bn F g (A++y::(B++[.mp Kj])) w F' g' H' w'):Bn F g (A++x::B) w F' g' H' w' where
 sub:=h.sub
 keep:=h.keep
 gh:=h.gh
 size:=h.size
 frame X hX hn:=h.frame X hX fun b hb=>by
  by_cases h1:b<(A++x::B).length
  . exact hn b h1
  rw[(hs.beyond b Aa).1]; simp
 new a ha:=by
  rcases h.new a ha with h1|h1|⟨t,h1,h2,h3⟩
  . exact .inl h1
  . exact .inr (.inl h1)
  refine .inr (.inr ⟨t,?_,h2,h3⟩);rcases E8 t (A++x::B).length with h4|h4
  . exact h4
  exact absurd (hs.beyond t h4).2 h2
 blks b X hb he:=by
  rcases h.blks b X hb he with⟨h1,h2⟩|h1
  . rcases E8 b (A++x::B).length with h4|h4
    . exact .inl ⟨h4,h2⟩
    rw[(hs.beyond b h4).1]at h2;cases h2
  exact .inr h1
 len:=by have:=h.len;simp at this ⊢; omega
 io:=h.io
def A9.reserve[D6]{P:Program}{x:AC}{t:Ao}{A B:Ai}{Q:AX->Ao->Ai->Prop}(h:A9 P x t (A++ .var [.sl (.lazy (A.length+(B.length+1))) []]::(B++[.mp Kj])) Q):A9 P x t (A++ .var [.sl .nilT []]::B) Q:=by
 intro c hc F g w a hs;refine wp_mono (h c hc F g w a ⟨hs.1.reserve,hs.2⟩) fun e a' w' hp=>?_;rcases hp with⟨x,t',H',F',g',h1,h2,h3,h4⟩|⟨v,u,H',F',g',h1,h2,h3,h4,h5,h6⟩
 . exact .inl ⟨x,t',H',F',g',h1,h2,h3,h4.unreserve hs.1⟩
 exact .inr ⟨v,u,H',F',g',h1,h2,h3,h4,h5,h6.unreserve hs.1⟩
def Dc(l:List Int):List (List AV):=l.map fun n=>[.int .i64 n]
@[simp] def A99(n:Nat):∀l:List Int,D9 n (Dc l)=true
 | []=>rfl
 |x::l=>by
  have:=A99 n l;simp only[Dc]at this;simp[Dc,D9,A0,AV.inScope,this]
@[simp] def Baa:∀l:List Int,Gn (Dc l)=Dc l
 | []=>rfl
 |x::l=>by
  have:=Baa l;simp only[Dc]at this;simp[Dc,Gn,Ce,AV.strip,this]
@[simp] def Auq(l:F6):(Dc l).length=l.length:=by simp[Dc]
@[simp] def Btf:Dc []=[]:=rfl
def bz(l:F6)(n:Int):Dc l++[[.int .i64 n]]=Dc (l++[n]):=by simp[Dc]
def Ac3(l:F6)(n:Int):Dc (n::l)=[.int .i64 n]::Dc l:=rfl
def Xf:List Int->AV
 | []=>.sl (.lazy 2) []
 |x::l=>.sl (.own 2) (Dc (x::l))
def Xd:List Int->HB
 | []=>.mp Kj
 |_::l=>.tok (l.length+1) 1 3
def M0(c0:Cn)(x:List Int):List HB:=[.var (Ag c0),.var [Xf x],Xd x]
def R3(c:Cn)(bd:Int)(x:List Int):List Int:=if c.op=1/\bd<=c.n then x++[c.n-bd]else x
def A9g(c0:Cn):Gw (M0 c0) 3:=
 ⟨fun _=>rfl,fun x k hk=>by cases x<;>simp[M0,Xf,Xd,Be,A0,AV.inScope]; omega⟩
def Bro(c0 c:Cn)(bd:Int)(x:F6)(hn:c.op=1->0<=c.n/\c.n<=20000)(h0:0<=bd)(h1:bd<=1000)(hx:x.length<20000):
 HP 293 ([Ad c,.int .i64 bd]++[.ptr 1 0]) (M0 c0 x) (.tup []) (M0 c0 (R3 c bd x)):=by
 by_cases hc:c.op=1/\bd<=c.n
 . rw[R3,Ae hc];obtain⟨Q1,Of⟩:=hc;have hb:=hn Q1;have hw:=Au (n:=c.n-bd) Aa Aa
   cases x with
   |nil=>
    refine Hf Aed (hl:=(by simp[M0])) fun Am Q hQ=>?_;clear Am;simp[Ad,Ap c,M0,Xf,Xd,Q1,Of,hw,Ey,D3,A1,Kj]
    exact hQ (by simp[M0,Xf,Xd,Ap c0,Ac3])
   |cons y l=>
    simp only[Gq]at hx;have hl:(l.length+1)+1<=1073741824:=Aa;refine Hf Aed (hl:=(by simp[M0])) fun Am Q hQ=>?_;clear Am;simp[Ad,Ap c,M0,Xf,Xd,Q1,Of,hw,Ey,D3,A1,bz,Ac3,hl];exact hQ (by simp[M0,Xf,Xd,Ap c0,Ac3])
 rw[R3,Ac hc];refine Hf Aed (hl:=(by simp[M0])) fun Am Q hQ=>?_;clear Am;by_cases Q1:c.op=1
 . have Of:¬bd<=c.n:=fun h=>hc ⟨Q1,h⟩;simp[Ad,Ap c,M0,Q1,Of];refine hQ ?_;cases x<;>simp[M0,Xf,Xd,Ap c0]
 simp[Ad,Ap c,M0,Q1];refine hQ ?_;cases x<;>simp[M0,Xf,Xd,Ap c0]
mutual
def Asc:∀(c:Cn) (bd:Int) (x:List Int),0<=bd->bd+Bo c<=1000->(∀ z∈x,0<=z/\z<=20000)->C0 c=true->∀z∈My R3 c bd x,0<=z/\z<=20000
 | .mk o n s k ns l,bd,x,h0,hd,hx,hf=>by
   rw[Jt]at hd;have R8:(Cn.mk o n s k ns l).l=l:=rfl;rw[R8]at hd
   have hu:0<=Hp o bd/\Hp o bd<=bd+1:=by
    rw[Hp]; split
    . rw[Au Aa Aa]; omega
    omega
   rw[My];refine Asf l _ _ hu.1 Aa ?_ fun y hy=>sy hf hy;split
   . unfold R3;split
     . rename_i h;intro z hz;rcases List.mem_append.1 hz with hz|hz
       . exact hx z hz
       have h3:=Abx hf h.1;simp only[y6]at hz;have h2:=h.2;omega
     exact hx
   exact hx
def Asf:∀(l:List Cn) (bd:Int) (x:List Int),0<=bd->bd+Cz l<=1000->(∀ z∈x,0<=z/\z<=20000)->(∀ y∈l,C0 y=true)->∀z∈J8 R3 l bd x,0<=z/\z<=20000
 | [],_,_,_,_,hx,_=>hx
 |c::cs,bd,x,h0,hd,hx,hf=>by
  have h1:=Yq (l:=c::cs) (x:=c) Ab;have h2:Cz cs<=Cz (c::cs):=by simp only[Cz]; omega
  rw[J8];exact Asf cs bd _ h0 Aa (Asc c bd x h0 Aa hx (hf c Ab)) fun y hy=>hf y (by simp[hy])
end
mutual
def Tl{σ:Type}(f:Cn->Int->Int->σ->σ)(g:Int->Int->Int->σ->σ):Te->Int->Int->σ->σ
 | .mk op n s con tto k ns l,c,t,x=>Wh f g op l 0 c t (if op=1 then g n c t (if op=8 then f tto c t (if Dj op=true then f con c t x else x)else(if Dj op=true then f con c t x else x))else
  (if op=8 then f tto c t (if Dj op=true then f con c t x else x)else(if Dj op=true then f con c t x else x)))
def Wh{σ:Type}(f:Cn->Int->Int->σ->σ)(g:Int->Int->Int->σ->σ)(op:Int):List Te->Nat->Int->Int->σ->σ
 | [],_,_,_,x=>x
 |y::ys,i,c,t,x=>Wh f g op ys (i+1) c t (Tl f g y (Hd op i c t).1 (Hd op i c t).2 x)
end
def A2s{σ:Type}(f:Cn->Int->Int->σ->σ)(g:Int->Int->Int->σ->σ)(z:Te)(c t:Int)(x x1 x2 x3:σ)(h1:x1=if Dj z.op=true then f z.con c t x else x)(h2:x2=if z.op=8 then f z.to c t x1 else x1)(h3:x3=if z.op=1 then g z.n c t x2 else x2):
 Tl f g z c t x=Wh f g z.op z.l 0 c t x3:=by
 subst h1 h2 h3;cases z;rw[Tl]; rfl
structure Wlk {σ:Type} (S:σ->List HB) (M:Nat) (m1 m2:Nat) (p1 p2:List AV) (f:Cn->Int->Int->σ->σ) (g:Int->Int->Int->σ->σ):Prop where
 hps:Gw S M
 con:∀(c:Cn) (a b:Int) (x:σ),Ar c=true->0<=a->0<=b->a<=1000->b<=1000->HP m1 ([Ad c,C2 a b]++p1) (S x) (.tup []) (S (f c a b x))
 var:∀(n a b:Int) (x:σ),0<=n->n<=20000->0<=a->0<=b->a<=1000->b<=1000->HP m2 ([.int .i64 n,C2 a b]++p2) (S x) (.tup []) (S (g n a b x))
 c1:∀n,M<=n->A0 n p1=true
 c2:∀n,M<=n->A0 n p2=true
def Baq{σ:Type}{S:σ->Ai}{M:Nat}(hS:Gw S M)(s s':σ)(L:Ai):Ev (fun b=>decide (M<=b)) (S s++L) (S s'++L):=by
 intro b cs hV hb;have hb':M<=b:=by simpa using hV
 obtain⟨j,rfl⟩:∃j,b=M+j:=⟨b-M,Aa⟩;rw[hS.get]at hb ⊢;exact hb
def Brl{σ:Type}{S:σ->Ai}{M m1 m2:Nat}{p1 p2:Ao}{f:Cn->Int->Int->σ->σ}{g:Int->Int->Int->σ->σ}(hW:Wlk S M m1 m2 p1 p2 f g)
 (h:Nat) (z:Te) (c t:Int) (x0:σ) (ht:Ds (h+1) z) (h0:0<=c) (h1:0<=t) (hc:c+(h+1:Nat)<=1000) (hd:t+(h+1:Nat)<=1000)
 (A6:∀y∈z.l,∀(c t:Int) (x:σ),0<=c->0<=t->c+h<=1000->t+h<=1000->HP 247 [C2 c t,Ah y,.fn (.func m1) [] p1,.fn (.func m2) [] p2] (S x) (.tup []) (S (Tl f g y c t x))):
 HP 247 [C2 c t,Ah z,.fn (.func m1) [] p1,.fn (.func m2) [] p2] (S x0) (.tup []) (S (Tl f g z c t x0)):=by
 have hS:=hW.hps;have a1:=hS.len;have a2:=hS.at0;have a3:=hS.get;have A8:=fun s=>hS.sc s M (Bm _);have bi:=hW.c1 M (Bm _);have Q8:=hW.c2 M (Bm _);obtain⟨De,hn2,P8⟩:=ct ht.1;have ng:∀i,i<z.l.length->_:=fun i hi=>Ac1 ht hi h0 h1 Aa Aa;obtain⟨x1,Fd⟩:∃x1,x1=if Dj z.op=true then f z.con c t x0 else x0:=⟨_,rfl⟩;obtain⟨x2,Qb⟩:∃x2,x2=if z.op=8 then f z.to c t x1 else x1:=⟨_,rfl⟩;obtain⟨x3,Td⟩:∃x3,x3=if z.op=1 then g z.n c t x2 else x2:=⟨_,rfl⟩;have key:=A2s f g z c t x0 x1 x2 x3 Fd Qb Td;have hcon:=fun(hh:Dj z.op=true) (L:Ai)=>(hW.con z.con c t x0 (De hh) h0 h1 Aa Aa).suffix (by simp[a1]) (by simp[A0,a1,bi,C2]) (by rw[a1]; exact A8 _) L;have hto:=fun(hh:z.op=8) (L:Ai)=>(hW.con z.to c t x1 (hn2 hh) h0 h1 Aa Aa).suffix (by simp[a1]) (by simp[A0,a1,bi,C2]) (by rw[a1]; exact A8 _) L;have hvr:=fun(hh:z.op=1) (L:Ai)=>(hW.var z.n c t x2 (P8 hh).1 (P8 hh).2 h0 h1 Aa Aa).suffix (by simp[a1]) (by simp[A0,a1,Q8,C2]) (by rw[a1]; exact A8 _) L;refine Hf Bjw (hl:=(by simp[a1])) fun Am Q hQ=>?_;have hf:=Zn (c:=z) (by simpa[Bl,Ah,AV.fits]using Am.2.1);have B5:z.l.length<=1073741824:=by simpa[A1]using hf.2.2.2.2.1
 clear Am hf;simp[-Az,C2,Ah,Aq z];rw[Az];simp[-Az,a1];refine ly (ι:=Unit) (fun _=>S x1++[.var [.int .i64 c,.int .i64 t],.var [.int .i64 z.op,.int .i64 z.n,.str z.s,.int .i64 z.con.op,.int .i64 z.con.n,.str z.con.s,.sl .none (z.con.k.l.map Ak),.sl .none (At z.con.names),.sl .none (z.con.l.map Ag),.int .i64 z.to.op,.int .i64 z.to.n,.str z.to.s,.sl .none (z.to.k.l.map Ak),.sl .none (At z.to.names),.sl .none (z.to.l.map Ag),.sl .none (z.k.l.map Ak),.sl .none (At z.names),.sl .none (z.l.map Bi)]]) (fun _ _=>True) ?_ ?_
 . intro Q' hn hr;rw[Az];simp[-Az,a1];refine Ca (xm z.op) ?_;cases hh:Dj z.op
   . rw[Ac (by simp[hh])]at Fd;rw[Fd]at hn;simp;exact hn () _ Ab trivial
   rw[Ae hh]at Fd;have hcon:=hcon hh;rw[<- Fd]at hcon;simp[a1];refine N5 (first:=[]) (r:=.tup []) (by simpa[C2,Ad,Ap z.con]using hcon [_,_]) ?_;simp;exact hn () _ Ab trivial
 intro _ f1 _;clear hcon Fd;simp[-Az];refine ly (ι:=Unit) (fun _=>S x2++[.var [.int .i64 c,.int .i64 t],.var [.int .i64 z.op,.int .i64 z.n,.str z.s,.int .i64 z.con.op,.int .i64 z.con.n,.str z.con.s,.sl .none (z.con.k.l.map Ak),.sl .none (At z.con.names),.sl .none (z.con.l.map Ag),.int .i64 z.to.op,.int .i64 z.to.n,.str z.to.s,.sl .none (z.to.k.l.map Ak),.sl .none (At z.to.names),.sl .none (z.to.l.map Ag),.sl .none (z.k.l.map Ak),.sl .none (At z.names),.sl .none (z.l.map Bi)]]) (fun _ _=>True) ?_ ?_
 . intro Q' hn hr;rw[Az];simp[-Az,a1];by_cases hh:z.op=8
   . rw[Ae hh]at Qb;have hto:=hto hh;rw[<- Qb]at hto;simp[hh,a1];refine N5 (first:=[]) (r:=.tup []) (by simpa[C2,Ad,Ap z.to,hh]using hto [_,_]) ?_;simp;rw[hh]at hn;exact hn () _ Ab trivial
   rw[Ac hh]at Qb;rw[Qb]at hn;simp[hh];exact hn () _ Ab trivial
 intro _ f2 _;clear hto Qb;simp[-Az];refine ly (ι:=Unit) (fun _=>S x3++[.var [.int .i64 c,.int .i64 t],.var [.int .i64 z.op,.int .i64 z.n,.str z.s,.int .i64 z.con.op,.int .i64 z.con.n,.str z.con.s,.sl .none (z.con.k.l.map Ak),.sl .none (At z.con.names),.sl .none (z.con.l.map Ag),.int .i64 z.to.op,.int .i64 z.to.n,.str z.to.s,.sl .none (z.to.k.l.map Ak),.sl .none (At z.to.names),.sl .none (z.to.l.map Ag),.sl .none (z.k.l.map Ak),.sl .none (At z.names),.sl .none (z.l.map Bi)]]) (fun _ _=>True) ?_ ?_
 . intro Q' hn hr;rw[Az];simp[-Az,a1];by_cases hh:z.op=1
   . rw[Ae hh]at Td;have hvr:=hvr hh;rw[<- Td]at hvr;simp[hh,a1];refine N5 (first:=[]) (r:=.tup []) (by simpa[C2,hh]using hvr [_,_]) ?_;simp;rw[hh]at hn;exact hn () _ Ab trivial
   rw[Ac hh]at Td;rw[Td]at hn;simp[hh];exact hn () _ Ab trivial
 intro _ f3 _;clear hvr Td De hn2 P8;simp[a1]
 refine Ip (A9.loopS S (fun n f' s G=>∃k:Nat,k+n=z.l.length/\f' 37= .int .i64 k/\Wh f g z.op (z.l.drop k) k c t s=Wh f g z.op z.l 0 c t x3/\
  ∃G',G= .var [.int .i64 c,.int .i64 t] :: .var [.int .i64 z.op,.int .i64 z.n,.str z.s,.int .i64 z.con.op,.int .i64 z.con.n,.str z.con.s,.sl .none (z.con.k.l.map Ak),.sl .none (At z.con.names),.sl .none (z.con.l.map Ag),.int .i64 z.to.op,.int .i64 z.to.n,.str z.to.s,.sl .none (z.to.k.l.map Ak),.sl .none (At z.to.names),.sl .none (z.to.l.map Ag),.sl .none (z.k.l.map Ak),.sl .none (At z.names),.sl .none (z.l.map Bi)]::G') z.l.length x3 [.var [.int .i64 c,.int .i64 t],.var [.int .i64 z.op,.int .i64 z.n,.str z.s,.int .i64 z.con.op,.int .i64 z.con.n,.str z.con.s,.sl .none (z.con.k.l.map Ak),.sl .none (At z.con.names),.sl .none (z.con.l.map Ag),.int .i64 z.to.op,.int .i64 z.to.n,.str z.to.s,.sl .none (z.to.k.l.map Ak),.sl .none (At z.to.names),.sl .none (z.to.l.map Ag),.sl .none (z.k.l.map Ak),.sl .none (At z.names),.sl .none (z.l.map Bi)]] rfl ⟨0,Ab,rfl,rfl,_,rfl⟩ ?_)
 rintro n f4 s G ⟨k,hk,h37,he,G',rfl⟩;refine Ru fun Q2 Aj=>?_;simp[h37];by_cases Af:k<z.l.length
 . have Fz:=Ct Af;obtain⟨i1,i2,i3,i4⟩:=ng k Af;have hr:=fun L=>(A6 z.l[k] (Cy _) (Hd z.op k c t).1 (Hd z.op k c t).2 s i1 i3 Aa Aa).suffix (by simp[a1]) (by simp[A0,AV.inScope,a1,bi,Q8,C2]) (by rw[a1]; exact A8 _) L;have Sb:=A1u z k c t;rw[Fz,Wh]at he;generalize Hd z.op k c t=u at hr Sb he;generalize Tl f g z.l[k] u.1 u.2 s=s' at hr he;have a4:=hS.set;have a6:∀(a b c:HB) (L:Ai),(a::b::(L++[c]))[L.length+1+1]? =some c:=fun a b c L=>Ab;have a7:∀(a b c:HB) (L:Ai) (x:HB),(a::b::(L++[c])).set (L.length+1+1) x=a::b::(L++[x]):=fun a b c L x=>Ab;have hlen:∀(a b:HB) (L:Ai),(S s++a::b::L).length=M+(L.length+1+1):=fun a b L=>by simp[a1]
   simp[Af,a1,a4,a7,hlen];refine Ty (fun b=>decide (M<=b)) [7] Bc ?_;simp[a1,hlen];refine Da Sb ?_ (ha:=by simp[C2]);simp[C2,a1,hlen];refine Ql (first:=[]) (cap:=[]) (r:=.tup []) (by simpa[C2,Ah,Aq z]using hr (.var [.int .i64 c,.int .i64 t] :: .var [.int .i64 z.op,.int .i64 z.n,.str z.s,.int .i64 z.con.op,.int .i64 z.con.n,.str z.con.s,.sl .none (z.con.k.l.map Ak),.sl .none (At z.con.names),.sl .none (z.con.l.map Ag),.int .i64 z.to.op,.int .i64 z.to.n,.str z.to.s,.sl .none (z.to.k.l.map Ak),.sl .none (At z.to.names),.sl .none (z.to.l.map Ag),.sl .none (z.k.l.map Ak),.sl .none (At z.names),.sl .none (z.l.map Bi)]::(G'++[.var (Bi z.l[k])]))) (by simpa using Baq hS s s' (.var [.int .i64 c,.int .i64 t] :: .var [.int .i64 z.op,.int .i64 z.n,.str z.s,.int .i64 z.con.op,.int .i64 z.con.n,.str z.con.s,.sl .none (z.con.k.l.map Ak),.sl .none (At z.con.names),.sl .none (z.con.l.map Ag),.int .i64 z.to.op,.int .i64 z.to.n,.str z.to.s,.sl .none (z.to.k.l.map Ak),.sl .none (At z.to.names),.sl .none (z.to.l.map Ag),.sl .none (z.k.l.map Ak),.sl .none (At z.names),.sl .none (z.l.map Bi)]::(G'++[.var (Bi z.l[k])]))) ?_;simp[Au (n:=(k:Int)+1) Aa Aa];refine Aj (Rb (n-1) s' (G':=.var [.int .i64 c,.int .i64 t] :: .var [.int .i64 z.op,.int .i64 z.n,.str z.s,.int .i64 z.con.op,.int .i64 z.con.n,.str z.con.s,.sl .none (z.con.k.l.map Ak),.sl .none (At z.con.names),.sl .none (z.con.l.map Ag),.int .i64 z.to.op,.int .i64 z.to.n,.str z.to.s,.sl .none (z.to.k.l.map Ak),.sl .none (At z.to.names),.sl .none (z.to.l.map Ag),.sl .none (z.k.l.map Ak),.sl .none (At z.names),.sl .none (z.l.map Bi)]::(G'++[.var (Bi z.l[k])])) Ab Aa Ab ?_);exact⟨k+1,Aa,Ab,he,_,rfl⟩
 have hs:s=Tl f g z c t x0:=by rw[key,<-he,Cm Aa,Wh]
 simp[Af];refine Aj (Sk ?_);show KE _ 0 _ Q _ _;simp;exact hQ
def A1y{σ:Type}{S:σ->Ai}{M m1 m2:Nat}{p1 p2:Ao}{f:Cn->Int->Int->σ->σ}{g:Int->Int->Int->σ->σ}(hW:Wlk S M m1 m2 p1 p2 f g):
 ∀(h:Nat) (z:Te) (c t:Int) (x0:σ),Ds h z->0<=c->0<=t->c+h<=1000->t+h<=1000->HP 247 [C2 c t,Ah z,.fn (.func m1) [] p1,.fn (.func m2) [] p2] (S x0) (.tup []) (S (Tl f g z c t x0))
 |0,_,_,_,_,ht,_,_,_,_=>ht.elim
 |h+1,z,c,t,x0,ht,h0,h1,hc,hd=>Brl hW h z c t x0 ht h0 h1 hc hd fun y hy c t x g0 g1 g2 g3=>A1y hW h y c t x (ht.2 y hy) g0 g1 g2 g3
end
section
open Go.RowKit Go.Shelf Go.Proofs Go.Sort
structure Vc (w:World) (B:Nat) (w':World):Prop where
 size:w.heap.size<=w'.heap.size
 heap:∀X,X<w.heap.size->X≠B->w'.heap[X]? =w.heap[X]?
 io:w'.os=w.os/\w'.output=w.output
def Vc.trans{w w1 w2:World}{B:Nat}(h:Vc w B w1)(h':Vc w1 B w2):Vc w B w2:=
 ⟨Ps h.size h'.size,fun X h1 h2=>(h'.heap X (Qp h1 h.size) h2).trans (h.heap X h1 h2),h'.io.1.trans h.io.1,h'.io.2.trans h.io.2⟩
def Qn(w:World)(B:Nat)(zs:List Int):Prop:=∃cur e,w.heap[B]? =some (.cells cur e (0,0))/\cur.toList.take zs.length=zs.map (Value.int .i64)
def Qn.get{w:World}{B:Nat}(h:Qn w B zs){j:Nat}{z:Int}(hj:zs[j]? =some z):w.cell? ⟨B,j,none⟩=some (.int .i64 z):=by
 obtain⟨cur,e,h1,h2⟩:=h;have hl:j<zs.length:=(List.getElem?_eq_some_iff.1 hj).1;have:=(holds_of_blockI h1 h2 j (by simpa using hl)).1;rw[Pt]at this;rw[this];have e2:=(List.getElem?_eq_some_iff.1 hj).2;simp[hl,e2]
def Jm(zs:List Int):List Int:=zs.mergeSort fun x y=>decide (x<=y)
def V0(zs:F6):(Jm zs).length=zs.length:=by simp[Jm]
def Ah4(B cap:Nat)(zs:F6)(w:World)(h:Qn w B zs)(hl:zs.length<4611686018427387904):
 Calls Tryz.prog 240 #[.slice (some ⟨B,0,none⟩) zs.length cap] w fun e w'=>e= .returned (.tuple #[])/\Vc w B w'/\Qn w' B (Jm zs):=by
 obtain⟨cur,e,h1,h2⟩:=h;have hB:B<w.heap.size:=(Array.getElem?_eq_some_iff.1 h1).1
 have hlen:zs.length<=cur.size:=by
  have:=A4 List.length h2;simp at this;omega
 have hc:Calls Tryz.prog 240 #[.slice (some ⟨B,0,none⟩) zs.length cap] w _:=Any.slices_Sort_int Tryz.lays189 B 0 cap zs w (holds_of_blockI h1 h2) hB hl;refine hc.mono ?_;rintro e' w' ⟨rfl,n,os,rfl⟩;refine⟨rfl,⟨?_,fun X hX Bg=>?_,rfl,rfl⟩,?_⟩
 . simp[putRow,mapBlock,Sort.ahead]
 . obtain⟨_,_,_,_,h5⟩:=grownBy_sortedI (w:=w) (g:=B) (n:=n) (os:=os) (Jm zs).toArray;exact h5 X hX (fun e=>Bg (by cases e;rfl))
 exact⟨_,e,heap_sortedI (Jm zs).toArray h1,by rw[V0,<-V0]; exact take_putCellsI cur (Jm zs) (by rw[V0]; exact hlen)⟩
def Ah5(w:World)(a:Option Addr)(cap:Nat):Calls Tryz.prog 240 #[.slice a 0 cap] w fun e w'=>e= .returned (.tuple #[])/\w'=w:=
 Any.slices_Sort_int_none Tryz.lays189 a cap w
def A3d(B cap:Nat)(zs:F6)(w:World)(h:Qn w B zs)(hl:zs.length<=cap)(S7:zs.length<4611686018427387904):
 Calls Tryz.prog 294 #[.slice (some ⟨B,0,none⟩) zs.length cap] w fun e w'=>e= .returned (.slice (some ⟨B,0,none⟩) (Lib.compact zs).length cap)/\Vc w B w'/\Qn w' B (Lib.compact zs):=by
 obtain⟨cur,e,h1,h2⟩:=h
 have hlen:zs.length<=cur.size:=by
  have:=A4 List.length h2;simp at this;omega
 have En:=Lib.compact_length_le zs;have hc:Calls Tryz.prog 294 #[.slice (some ⟨B,0,none⟩) zs.length cap] w _:=Any.slices_Compact_int Tryz.laysNm220 B 0 cap zs w (holds_of_blockI h1 h2) Aa hl;refine hc.mono ?_;rintro e' w' ⟨rfl,q,rfl⟩;generalize hd:Lib.compact zs++List.replicate (zs.length-(Lib.compact zs).length) 0=d;have R8:d.length=zs.length:=by rw[<- hd]; simp;omega
 have hw:putRow (Value.int .i64) (Sort.ahead w q) B 0 d.toArray=Sort.grow (putRow (Value.int .i64) (Sort.ahead w q) B 0 d.toArray) #[]:=Ab;rw[hw];refine⟨rfl,⟨?_,fun X hX Bg=>?_,rfl,rfl⟩,?_⟩
 . simp[putRow,mapBlock,Sort.ahead]
 . obtain⟨_,_,_,_,h5⟩:=grownBy_sortedI (w:=w) (g:=B) (n:=q) (os:=#[]) d.toArray;exact h5 X hX (fun e=>Bg (by cases e;rfl))
 refine⟨_,e,heap_sortedI d.toArray h1,?_⟩;have:=take_putCellsI cur d Aa;have h3:=A4 (List.take (Lib.compact zs).length) this;rw[List.take_take,Ahi Aa]at h3;rw[h3,<-hd];simp
def A3e(w:World)(a:Option Addr)(cap:Nat):Calls Tryz.prog 294 #[.slice a 0 cap] w fun e w'=>e= .returned (.slice a 0 cap)/\w'=w:=
 Any.slices_Compact_int_empty Tryz.laysNm220 a cap w
def Avw{x:Int}(h:x∈Lib.compact zs):x∈zs:=by
 unfold Lib.compact Lib.compactUpTo at h;obtain⟨i,hi,rfl⟩:=List.mem_map.1 h;have Fa:i<zs.length:=List.mem_range.1 (List.mem_filter.1 hi).1;simp[R4,Fa]
def Ado{x:Int}(h:x∈Jm zs):x∈zs:=by simpa[Jm]using h
def xu{P:Program}{x y:Code}{A:AC}{Q:Exit->Act->World->Prop}{F:Addr->Prop}{g:Gh}{H H2:Ai}{w:World}{t t2:Ao}{a:Act}(hc:Du P x=some A)(hs:Gk P F g H w t a)
 (h:A9 P A t H fun e t' H'=>e= .normal/\t'=t2/\H'=H2) (hk:∀F' g' w' a',Gk P F' g' H2 w' t2 a'->Bn F g H w F' g' H2 w'->y.wp P Q a' w'):(Code.seq x y).wp P Q a w:=by
 refine wp_seq (wp_mono (h.det x hc F g w a hs) ?_);rintro e a' w' ⟨x',t',H',F',g',rfl,⟨rfl,rfl,rfl⟩,Cv,hx⟩;exact hk F' g' w' a' Cv hx
def Bp6{P:Program}{F:Addr->Prop}{g:Gh}{H:Ai}{w:World}{args:Ao}{vs:Fm}{fn:Func}{n:Nat}(hn:fn.ntmps=n)(hG:Ja P F w)(hs:St F g H w)(hr:RL F g w args vs):
 Gk P F g H w (start args n) {tmps:=vs.toArray++Array.replicate (fn.ntmps-vs.toArray.size) undef,defers:=[]}:=by
 have hlen:=H5 hr;refine⟨hs,?_,rfl,hG⟩;show RL F g w _ _;simp only[start,Wi,Zr,Tu,hn,hlen];exact Ld hr (Wr Hk _)
def Bab{F F':Addr->Prop}{g g':Gh}{H':Ai}{w w' w2:World}(hs:St F g [] w)(hx:Bn F g [] w F' g' H' w'){B cap:Nat}(hB:w.heap.size<=B)(ha:Vc w' B w2)(hi:Qn w2 B zs)(Dv:zs.length<=cap)(hm:zs.length<=A1)(hr:∀z∈zs,IntKind.i64.has z):
 ∃F2,R F2 g w2 (.sl .none (Dc zs)) (.slice (some ⟨B,0,none⟩) zs.length cap)/\St F2 g [] w2/\Bn F g [] w F2 g [] w2:=by
 have aj:B<w2.heap.size:=by
  obtain⟨cur,e,h1,_⟩:=hi;exact(Array.getElem?_eq_some_iff.1 h1).1
 have Ih:∀a,F a->w2.cell? a=w.cell? a:=fun a Y0=>by
  have Af:=hs.live a Y0;have h1:w2.heap[a.block]? =w'.heap[a.block]?:=ha.heap a.block (Qp Af hx.size) Aa;exact(Oa h1).trans (hx.keep a Y0)
 refine⟨fun a=>F a\/(a.block=B/\a.spot=none),?_,?_,?_⟩
 . simp only[R];refine⟨by simpa using hm,.inr ⟨B,0,none,cap,1,Ab,by simpa using Dv,⟨Aa,Ab⟩,?_,trivial⟩⟩
   have key:∀(l:F6) (k:Nat),(∀ j z,l[j]? =some z->zs[k+j]? =some z)->RE (fun a=>F a\/(a.block=B/\a.spot=none)) g w2 B k 1 (Dc l):=by
    intro l
    induction l with
    |nil=>intro k _;simp[Dc,RE]
    |cons z l ih=>
     intro k hk;have h0:zs[k]? =some z:=by simpa using hk 0 z rfl
     have Un:z∈zs:=Sr h0;show RE _ _ _ _ _ _ ([.int .i64 z]::Dc l);simp only[RE,RM]
     exact⟨rfl,⟨⟨rfl,.int .i64 z,.inr ⟨trivial,trivial⟩,hi.get h0,by simp only[R]; exact⟨trivial,hr z Un⟩⟩,trivial⟩,ih (k+1) fun j y hy=>by
      have:=hk (j+1) y (by simpa using hy)
      rwa [show k+1+j=k+(j+1) by omega]⟩
   exact key zs 0 fun j z h=>by simpa using h
 . refine⟨fun a h=>?_,hs.beyond,hs.inj,fun b cs h=>by simp at h,fun t n k ty h=>by simp at h,fun b off s h=>?_,fun b e cs h=>by simp at h,fun b ks h=>by simp at h⟩
   . rcases h with h|h
     . exact Qp (hs.live a h) (Ps hx.size ha.size)
     rw[h.1]; exact aj
   rcases h with h|h
   . exact hs.spots b off s h
   exact absurd h.2 Ab
 refine⟨fun a h=>.inl h,Ih,Gh.le_refl g,Ps hx.size ha.size,fun X hX hn=>?_,fun a h=>?_,fun b X hb h=>.inl ⟨hb,h⟩,Bm _,ha.io.1.trans hx.io.1,ha.io.2.trans hx.io.2⟩
 . exact(ha.heap X (Qp hX hx.size) Aa).trans (hx.frame X hX hn)
 rcases h with h|h
 . exact .inl h
 exact .inr (.inl (by rw[h.1]; exact hB))
def Bm9{F F':Addr->Prop}{g g':Gh}{H':Ai}{w w':World}(hs:St F g [] w)(hx:Bn F g [] w F' g' H' w'):St F g [] w'/\Bn F g [] w F g [] w':=
 ⟨⟨fun a h=>Qp (hs.live a h) hx.size,hs.beyond,hs.inj,fun b cs h=>by simp at h,fun t n k ty h=>by simp at h,hs.spots,fun b e cs h=>by simp at h,fun b ks h=>by simp at h⟩,
  ⟨fun a h=>h,hx.keep,Gh.le_refl g,hx.size,hx.frame,fun a h=>.inl h,fun b X hb h=>.inl ⟨hb,h⟩,Bm _,hx.io⟩⟩
def Bkp{F:Addr->Prop}{g:Gh}{H:Ai}{w:World}(hs:St F g H w){t:Nat}(Bg:zs≠[])(ht:H[t]? =some (.tok zs.length 1 3))(hv:R F g w (.sl (.own t) (Dc zs)) v):
 ∃B cap,v= .slice (some ⟨B,0,none⟩) zs.length cap/\zs.length<=cap/\g.blk t=some B/\zs.length<=A1/\Qn w B zs:=by
 obtain⟨M6,h|⟨D,off,sp,cap,k,rfl,c1,c2,c3,c4⟩⟩:=L7 hv
 . exact absurd h.1 (by simpa[Dc]using Bg)
 simp only[Auq]at M6 c1 c4;obtain⟨m,c,r1,r2,r3⟩:=c4;obtain⟨X,cx,ws,el,fr,s1,s2,s3,⟨s4,s5,s6,s7⟩,s8,s9⟩:=hs.tok t _ _ _ ht;rw[s2]at r1;cases r1;obtain⟨d1,d2,d3,d4⟩:=r3 rfl;rw[s1]at d1;cases d1;simp only at d2 d4;subst d2 d3 d4;obtain rfl:el=3:=s6 Di;obtain rfl:=s7 (.inr rfl);refine⟨D,cap,by rw[Auq],c1,s1,M6,ws,3,s3,?_⟩;apply Tq;intro j;by_cases hj:j<zs.length
 . rw[A3r hj];obtain⟨e1,e2⟩:=lw c3 j [.int .i64 zs[j]] (by simp[Dc,hj]);have hk1:k=1:=by simpa using e1.symm
   subst hk1;simp only[RM,Aac,Pt]at e2;obtain⟨⟨_,v,_,f2,f3⟩,_⟩:=e2;rw[(L6 f3).1]at f2;simp only[World.cell?,s3,Oz,Dp,Bq]at f2;rw[Mm,f2];simp[hj]
 rw[List.getElem?_take_eq_none Aa,Im (by simp;omega)]
end
section
open Go.RowKit Go.Shelf Go.Proofs Go.Sort
structure V6 where
 a:Value
 b:Value
 c:Value
 d:Value
 e:Value
 f:Value
 h:a.oneCell'=true/\b.oneCell'=true/\c.oneCell'=true/\d.oneCell'=true/\e.oneCell'=true/\f.oneCell'=true
def Fl(x:V6):List Value:=[x.a,x.b,x.c,x.d,x.e,x.f]
instance:Inhabited V6:=⟨⟨.int .i64 0,.int .i64 0,.int .i64 0,.int .i64 0,.int .i64 0,.int .i64 0,Di⟩⟩
def mj(x:V6):(Fl x).length=6:=rfl
def Asm(x:V6):∀v∈Fl x,v.oneCell'=true:=by
 obtain⟨h1,h2,h3,h4,h5,h6⟩:=x.h;intro v hv;simp only[Fl,Pp,Pq,Iy]at hv;rcases hv with rfl|rfl|rfl|rfl|rfl|rfl<;>assumption
section
variable {F:Addr->Prop} {g:Gh} {w:World}
def vy{k:IntKind}{n:Int}(h:R F g w (.int k n) v):v.oneCell'=true:=by rw[(L6 h).1]; rfl
def Axi{s:Bu}(h:R F g w (.str s) v):v.oneCell'=true:=by simp only[R]at h;rw[h.1]; rfl
def j8{t:Dh}{l:List Ao}(h:R F g w (.sl t l) v):v.oneCell'=true:=by
 obtain⟨_,h|⟨_,_,_,_,_,h,_⟩⟩:=L7 h
 . rw[h.2.1]; rfl
 rw[h]; rfl
def Azo{B:Nat} :∀(l:List Cn) (off:Nat),RE F g w B off 6 (l.map Ag)->∃ds:List V6,ds.length=l.length/\∀i c,l[i]? =some c->∃x,ds[i]? =some x/\RL F g w (Ag c) (Fl x)/\∀j u,(Fl x)[j]? =some u->w.cell? ⟨B,off+i*6+j,none⟩=some u
 | [],_,_=>⟨[],rfl,fun i c h=>by simp at h⟩
 |c::l,off,h=>by
  simp only[F8,RE]at h;obtain⟨_,h1,h2⟩:=h;obtain⟨ds,e1,e2⟩:=Azo l (off+6) h2;rw[Ap]at h1;simp only[RM]at h1;obtain⟨⟨_,v0,_,c0,r0⟩,⟨_,v1,_,c1,r1⟩,⟨_,v2,_,c2,r2⟩,⟨_,v3,_,c3,r3⟩,⟨_,v4,_,c4,r4⟩,⟨_,v5,_,c5,r5⟩, -⟩:=h1;refine⟨⟨v0,v1,v2,v3,v4,v5,vy r0,vy r1,Axi r2,j8 r3,j8 r4,j8 r5⟩::ds,by simp[e1],fun i c' hi=>?_⟩
  cases i with
  |zero=>
   simp only[Tt,Ay]at hi;subst hi;refine⟨_,rfl,?_,fun j u hj=>?_⟩
   . rw[Ap];exact⟨_,_,rfl,r0,_,_,rfl,r1,_,_,rfl,r2,_,_,rfl,r3,_,_,rfl,r4,_,_,rfl,r5,rfl⟩
   match j,hj with
   |0,hj=>cases hj;simpa using c0
   |1,hj=>cases hj;simpa using c1
   |2,hj=>cases hj;simpa using c2
   |3,hj=>cases hj;simpa using c3
   |4,hj=>cases hj;simpa using c4
   |5,hj=>cases hj;simpa using c5
   |j+6,hj=>simp[Fl]at hj
  |succ i=>
   obtain⟨x,q1,q2,q3⟩:=e2 i c' (by simpa using hi);refine⟨x,by simpa using q1,q2,fun j u hj=>?_⟩;have:=q3 j u hj;rwa [show off+(i+1)*6+j=off+6+i*6+j by omega]
end
def Ath(ds:List V6){j:Nat}{u:Value}(h:(flatK Fl 6 ds.toArray).toList[j]? =some u):∃x,ds[j/6]? =some x/\(Fl x)[j%6]? =some u:=by
 have hj:j<ds.length*6:=by
  have:=(List.getElem?_eq_some_iff.1 h).1;simpa using this
 have hd:j/6<ds.length:=Aa
 have e:(flatK Fl 6 ds.toArray).toList[j]? =some (flatK Fl 6 ds.toArray)[j]!:=by
  rw[Mm,R4 _ j (by simpa using hj),xw (by simpa using hj)]
 rw[e,get_flatK _ _ _ _ (by simpa using hj)]at h;refine⟨ds[j/6],by rw[Il hd],?_⟩;have h2:(ds.toArray)[j/6]! =ds[j/6]:=by simp[hd]
 rw[h2]at h;rw[Il (by rw[mj]; omega)];rw[R4 (Fl ds[j/6]) (j%6) (by rw[mj]; omega)]at h;exact h
def A46(B off cap:Nat)(ds:List V6)(w:World)(hn:ds.length<=1073741824)(hc:∀i x,ds[i]? =some x->∀j u,(Fl x)[j]? =some u->w.cell? ⟨B,off+i*6+j,none⟩=some u):
 Calls Tryz.prog 96 #[.slice (some ⟨B,off,none⟩) ds.length cap] w fun e w'=>∃g cap',e= .returned (.slice (some ⟨g,0,none⟩) ds.length cap')/\w.heap.size<=g/\g<w'.heap.size/\ds.length<=cap'/\(∀ X,X<w.heap.size->w'.heap[X]? =w.heap[X]?)/\w'.os=w.os/\w'.output=w.output/\w.heap.size<=w'.heap.size/\
  HoldsK Fl 6 w' g 0 ds.reverse.toArray:=by
 have En:Calls Tryz.prog 59 #[.slice (some ⟨B,off,none⟩) ds.length cap] w fun e w'=>∃v',e= .returned v'/\w'.ownsRow w.heap.size 28 6 v' ds.length (flatK Fl 6 ds.toArray).toList/\v'≠.slice none 0 0/\Below w.heap.size w w':=
  AnyE.slices_Clone Tryz.lays41 Tryz.t28 (.agg #[.int .i64 0,.int .i64 0,.string ⟨#[]⟩,.slice none 0 0,.slice none 0 0,.slice none 0 0]) 6 104 A5 A5 A5 A5 A5 Di Tryz.sizeOf28 B off ds.length cap (flatK Fl 6 ds.toArray).toList w Ab (by simp only[maxLen]; omega)
   Aa
   (fun j u hj=>by
    obtain⟨x,h1,h2⟩:=Ath ds hj;have:=hc _ _ h1 _ _ h2
    rwa [show off+j/6*6+j%6=off+j by omega]at this)
   (fun u hu=>by
    obtain⟨j,hj⟩:=List.mem_iff_getElem?.1 hu;obtain⟨x,_,h2⟩:=Ath ds hj
    exact Asm x u (Sr h2))
 go_enter Tryz.func96,Tryz.ntmps96
 go_wp2_with (go_at_call 59;refine En.mono ?_)
 rintro e w1 ⟨v',rfl,Bt,hnn,aw⟩;rcases Bt.2 with⟨Za,_⟩|⟨g,cap',cur,rfl,au,hb,h1,h2,h3,h4⟩
 . exact absurd Za hnn
 have hH:HoldsK Fl 6 w1 g 0 ds.toArray:=by
  intro j hj;rw[size_flatK]at hj;have Sc:j<(flatK Fl 6 ds.toArray).toList.length:=by simpa using hj
  refine⟨?_,by simp[World.frozen?,hb]⟩;have h5:(cur.toList.take (ds.length*6))[j]? =(flatK Fl 6 ds.toArray).toList[j]?:=by rw[h4]
  rw[A3r (by simpa using hj)]at h5;simp only[World.cell?,hb,Pt,Oz,Dp,Bq];rw[<- Mm,h5,Mm,R4 _ j (by simpa using hj),xw (by simpa using hj)];rfl
 have Sg:∀n,n=ds.length->Calls Tryz.prog 160 #[.slice (some ⟨g,0,none⟩) n cap'] w1 fun e w'=>e= .returned (.tuple #[])/\∃n,w'=putRowK Fl 6 (Sort.ahead w1 n) g 0 ds.toArray.reverse:=fun n hn'=>by
  subst hn';exact AnyQ.slices_Reverse Tryz.lays35 6 Tryz.isAgg28 Tryz.sizeOf28 Fl mj Asm g 0 cap' ds.toArray w1 hH (by simp;omega)
 have hg:g<w1.heap.size:=(Array.getElem?_eq_some_iff.1 hb).1
 have Li:∀q,(fun e w'=>∃g cap',e=Ending.returned (.slice (some ⟨g,0,none⟩) ds.length cap')/\w.heap.size<=g/\g<w'.heap.size/\ds.length<=cap'/\(∀ X,X<w.heap.size->w'.heap[X]? =w.heap[X]?)/\w'.os=w.os/\w'.output=w.output/\w.heap.size<=w'.heap.size/\
  HoldsK Fl 6 w' g 0 ds.reverse.toArray) (Ending.returned (.slice (some ⟨g,0,none⟩) ds.length cap')) (putRowK Fl 6 (Sort.ahead w1 q) g 0 ds.toArray.reverse):=fun q=>by
  have hs:(putRowK Fl 6 (Sort.ahead w1 q) g 0 ds.toArray.reverse).heap.size=w1.heap.size:=by simp[putRowK,putRow,mapBlock,Sort.ahead]
  refine⟨g,cap',rfl,au,by rw[hs]; exact hg,h1,fun X hX=>?_,aw.os,aw.output,by rw[hs]; exact aw.size,?_⟩
  . rw[<- aw.block X hX];have:g≠X:=Aa;simp[putRowK,putRow,mapBlock,Sort.ahead,xx,this]
  have:=holdsK_putRowK Fl 6 (Sort.ahead w1 q) g 0 ds.toArray ds.toArray.reverse (holdsK_ahead Fl 6 w1 q g 0 ds.toArray hH) Ab;simpa using this
 clear En Bt hnn aw hH hc h1 h2 h3 h4 hb au
 go_wp2_with (go_at_call 160;refine(Sg _ rfl).mono ?_)
 rintro e w2 ⟨rfl,q,rfl⟩;have hq:=Li q;clear Li Sg
 go_wp2
 go_ret
 rw[List.reverse_toArray]at hq;exact hq
end
section
open Go.RowKit Go.Shelf Go.Proofs
attribute [local go_sem] Oper.semAt_some
def A47{α:Type}(G8:α->Array Value)(el:Nat->α)(zs:Nat->V6)(Kp:World->World->Prop)(F:Fence)(n:Nat)(mz:F.fn 257)(br:F.round=none)(hn:1<=n)(l Bs b off len cap:Nat)(hlen:len<=1073741824)
 (Uj:∀k,k<len->G8 (el k)= #[.int .i64 k,.agg #[(zs k).a,(zs k).b,(zs k).c,(zs k).d,(zs k).e,(zs k).f]])
 (Yy:∀W W',Kp W W'->W'.cell? ⟨Bs,0,none⟩=W.cell? ⟨Bs,0,none⟩) (Uf:∀W W' k i,k<len->i<6->Kp W W'->W'.cell? ⟨b,off+k*6+i,none⟩=W.cell? ⟨b,off+k*6+i,none⟩) (J Jx:List α->World->Prop)
 (hY:∀Bz x W,J Bz W->Bz.length<len->YieldAt F (n-1) Tryz.prog l (G8 x) W fun e W'=>
  (e= .returned (.bool true)/\J (Bz++[x]) W'/\Kp W W')\/(e= .returned (.bool false)/\Jx (Bz++[x]) W'))
 (W:World) (Yw:W.cell? ⟨Bs,0,none⟩=some (.slice (some ⟨b,off,none⟩) len cap)) (hc:∀j i u,j<len->(Fl (zs j))[i]? =some u->W.cell? ⟨b,off+j*6+i,none⟩=some u) (h0:J [] W):
 CallsIn F n Tryz.prog 257 #[.func (.yield l) #[] #[],.pointer (some ⟨Bs,0,none⟩)] W fun e W'=>(∃ v,e= .returned v)/\
  ((∃ ys,ys=Pz el len len/\J ys W')\/(∃ Bz,Jx Bz W')):=by
 refine callsIn_of_wp Tryz.func257 rfl mz ?_ br;simp only[Tryz.ntmps257,Tu,Gq,Ox,Nat.reduceAdd,Nat.reduceSub,Agq,Agr,Aha,Ag3,Gx,Gb]
 gi_wp2
 gi_loopw [3] (fun i wr=>∃k:Nat,k<=len/\i= .int .i64 ((len:Int)-1-k)/\J (Pz el len k) wr/\wr.cell? ⟨Bs,0,none⟩=some (.slice (some ⟨b,off,none⟩) len cap)/\∀j i u,j<len->(Fl (zs j))[i]? =some u->wr.cell? ⟨b,off+j*6+i,none⟩=some u)
  (fun i _=>(intOf i+1).toNat)
 case atStart=>exact⟨0,Nl _,Ab,h0,Yw,hc⟩
 case round=>
  obtain⟨k,hk,rfl,aq,O5,M1⟩:=hrel;by_cases Af:k<len
  . obtain⟨fn,tmps,assign,body,hy,hR⟩:=hY _ (el (len-1-k)) wr aq (by rw[Ar2]; exact Af);have c0:=M1 (len-1-k) 0 _ Aa rfl;rw[qj]at c0;have c1:=M1 (len-1-k) 1 _ Aa rfl;have c2:=M1 (len-1-k) 2 _ Aa rfl;have c3:=M1 (len-1-k) 3 _ Aa rfl;have c4:=M1 (len-1-k) 4 _ Aa rfl;have c5:=M1 (len-1-k) 5 _ Aa rfl;rw[Uj _ Aa]at hy;have he:((len-1-k:Nat):Int)=(len:Int)-1-k:=Aa;rw[he]at hy
    gi_wp2
    refine hR.mono ?_;rintro e W3 (⟨rfl,hJ3,Q6⟩|⟨rfl,Ab8⟩)
    . gi_wp2
      go_roundw
      case rel=>exact⟨k+1,Aa,by congr 1;omega,by rw[Ar3]; exact hJ3,(Yy _ _ Q6).trans O5,fun j i u hj hi=>(Uf _ _ j i hj (by have:=(List.getElem?_eq_some_iff.1 hi).1;simpa[Fl]using this) Q6).trans (M1 j i u hj hi)⟩
      case measure=>simp[intOf]; omega
    gi_wp2
    refine bodyPost_ret (results_none rfl _ _ _) rfl ?_;exact⟨⟨_,rfl⟩,.inr ⟨_,Ab8⟩⟩
  obtain rfl:k=len:=by omega
  gi_wp2
  go_end0
  exact⟨⟨_,rfl⟩,.inl ⟨_,rfl,aq⟩⟩
end
