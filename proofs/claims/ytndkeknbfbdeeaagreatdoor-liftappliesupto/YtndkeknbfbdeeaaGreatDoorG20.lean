/- A part of the proof that LiftApplies answers true. -/
import Derived.Test.YtndkeknbfbdeeaaGreatDoorG17
import Derived.Test.YtndkeknbfbdeeaaGreatDoorG18
set_option linter.all false
set_option maxHeartbeats 4000000
set_option maxRecDepth 100000
namespace Go.Proofs.YtndkeknbfbdeeaaGreatDoor
open Go
variable {c:Cn}
mutual
def um(d:Int):∀(c:Cn) (f:Int),Al (Fe c d f)<=Al c/\Bo (Fe c d f)<=Bo c
 | .mk o n s k ns l,f=>by
   rw[Fe];split
   . split
     . simp only[Ch,Al,Bd,Bo,Cz]; omega
     exact⟨Bm _,Bm _⟩
   have:=Auk d l (if Bw o=true then f+1 else f);simp only[Al,Bo]; omega
def Auk(d:Int):∀(l:List Cn) (f:Int),Bd (Hs l d f)<=Bd l/\Cz (Hs l d f)<=Cz l
 | [],_=>by simp[Hs]
 |c::cs,f=>by
  have h1:=um d c f;have h2:=Auk d cs f;simp only[Hs,Bd,Cz]; omega
end
def Bcf{o n:Int}{s:Bu}{k:Kd}{ns:List Bu}{l l':Ax}(h:Ht (.mk o n s k ns l)=true)(hl:l'.length=l.length):Ht (.mk o n s k ns l')=true:=by
 have e:Ht (.mk o n s k ns l')=Ht (.mk o n s k ns l):=by
  have e1:n1 (.mk o n s k ns l')=n1 (.mk o n s k ns l):=by
   unfold n1;rw[mf];show((l'.length:Int)=W6 (.mk o n s k ns l))↔_;rw[hl]; exact Iff.rfl
  unfold Ht;rw[e1]; rfl
 rw[e]; exact h
def Atn{m:Int}(h0:0<=m)(h1:m<=20000):C0 (Ch m)=true:=by
 rw[Mu];have e1:¬m<0:=Aa;have e2:¬20000<m:=Aa;simp[Ch,Ht,n1,n2,n3,n4,n5,W6,Cn.l,Cn.op,Cn.n,Cn.s,Cn.k,Cn.names,Kd.l,Bw,Rd,asc,e1,e2]
def Bsk{m:Int}(h0:0<=m)(h1:m<=20000):Ar (Ch m)=true:=by
 simp only[Ar,Atn h0 h1,Bool.and_true,Bb,Aw];simp[Ch,Al,Bd,Bo,Cz]
mutual
def Aug:∀(c:Cn) (f:Int),C0 c=true->0<=f->f+Bo c<=10000->Ix c f=false->C0 (Fe c (-1) f)=true
 | .mk o n s k ns l,f,hf,h0,hd,ho=>by
   have hn:=hf;rw[Mu,Bb]at hn;have M4:=Jt (.mk o n s k ns l);simp only[Cn.l]at M4;rw[Fe];rw[Ix]at ho;by_cases h1:o=1
   . obtain⟨-,g1,g2⟩:=V3 hn.1 h1;simp only[Cn.n]at g1 g2;rw[Ae h1]at ho ⊢;simp only[Bj]at ho;by_cases h2:f<=n
     . rw[Ae h2]; exact Atn Aa Aa
     rw[Ac h2]; exact hf
   rw[Ac h1]at ho ⊢;rw[Au (n:=f+1) Aa Aa]at ho;rw[Mu,Bb];exact⟨Bcf hn.1 (by rw[A90,Qo]),Aui l _ hn.2 (by split<;>omega) (by split<;>omega) ho⟩
def Aui:∀(l:List Cn) (f:Int),l.all C0=true->0<=f->f+Cz l<=10000->Pc l f=false->(Hs l (-1) f).all C0=true
 | [],_,_,_,_,_=>rfl
 |c::cs,f,hf,h0,hd,ho=>by
  rw[Er,Bb]at hf;simp only[Cz]at hd;rw[Pc,ef]at ho;rw[Hs,Er,Bb];exact⟨Aug c f hf.1 h0 Aa ho.1,Aui cs f hf.2 h0 Aa ho.2⟩
end
def A2m(h:Ar c=true)(ho:Ix c 0=false):Ar (Fe c (-1) 0)=true:=by
 obtain⟨v1,v2,v3⟩:=Gz h;have hs:=um (-1) c 0;simp only[Ar,Bb,Aw];exact⟨Aa,Aa,Aug c 0 v3 Aa Aa ho⟩
mutual
def Ash:∀(c:Cn) (bd:Int) (b:Bool),C0 c=true->0<=bd->bd+Bo c<=10000->My (Rc (-1) 0) c bd b=(b||Ix c bd)
 | .mk o n s k ns l,bd,b,hf,h0,hd=>by
   have hn:=hf;rw[Mu,Bb]at hn;have M4:=Jt (.mk o n s k ns l);simp only[Cn.l]at M4;rw[Asd,Ix];by_cases Eo:o=1\/o=2
   . obtain⟨e1, -⟩:=jz hn.1 Eo;simp only[Cn.l]at e1;subst e1;rw[Ae (show(Cn.mk o n s k ns []).op=1\/(Cn.mk o n s k ns []).op=2 from Eo)];show J8 (Rc (-1) 0) [] (Hp o bd) (Rc (-1) 0 (Cn.mk o n s k ns []) bd b)=_;rw[J8];by_cases h1:o=1
     . obtain⟨-,g1,g2⟩:=V3 hn.1 h1;simp only[Cn.n]at g1 g2;rw[Ae h1];show(b||(decide (o=1)&&(decide (0<=IntKind.i64.wrap (n-bd))&&decide (IntKind.i64.wrap (IntKind.i64.wrap (n-bd)+ -1)<0))))=_;rw[Au (n:=n-bd) Aa Aa,Au Aa Aa];by_cases h2:n=bd
       . have e1:(0:Int)<=n-bd:=by omega
         have e2:n-bd+ -1<(0:Int):=Aa;simp[h1,h2]
       by_cases h3:(0:Int)<=n-bd
       . have e2:¬n-bd+ -1<(0:Int):=by omega
         simp[h1,h2,e2]
       have e3:¬bd<=n:=by omega
       simp[h1,h2,e3]
     rw[Ac h1,Rc];simp[Cn.op,h1,Pc]
   rw[Ac (show ¬((Cn.mk o n s k ns l).op=1\/(Cn.mk o n s k ns l).op=2)from Eo),Ac (fun h=>Eo (.inl h))];show J8 (Rc (-1) 0) l (if Bw o=true then IntKind.i64.wrap (bd+1)else bd) b=_;have hw:IntKind.i64.wrap (bd+1)=bd+1:=Au Aa Aa;rw[hw,Asi l _ b hn.2 (by split<;>omega) (by split<;>omega)]
def Asi:∀(l:List Cn) (bd:Int) (b:Bool),l.all C0=true->0<=bd->bd+Cz l<=10000->J8 (Rc (-1) 0) l bd b=(b||Pc l bd)
 | [],_,b,_,_,_=>by simp[J8,Pc]
 |c::cs,bd,b,hf,h0,hd=>by
  rw[Er,Bb]at hf;simp only[Cz]at hd;rw[J8,Ash c bd b hf.1 h0 Aa,Asi cs bd _ hf.2 h0 Aa,Pc,Bool.or_assoc]
end
def Bpa(h:Ar c=true)(ho:Ix c 0=false):Hc 134 [Ad c,.int .i64 (-1),.int .i64 0] (Bf (Fe c (-1) 0,0)):=by
 obtain⟨v1,v2,v3⟩:=Gz h;obtain⟨p,hp,_,_,h4⟩:=A16 c Aa;have e:=h4 h (by rw[Ash c 0 false v3 Aa Aa,ho]; rfl);have hv:=A2m h ho;rw[Ki,ww (-1) 0 Aa Aa c 0 20000 v3 Aa Aa Aa Aa]at e;simp only[Ag1]at e;rw[Ac (by rw[hv]; simp only[Jo]; exact⟨Aa,Ab⟩)]at e;rw[<- e]; exact hp
mutual
def Azr(l:List Cn)(hl:∀x∈l,Ar x=true)(Dw:l.length<=1000):∀(c:Cn) (bd left:Int),C0 c=true->0<=bd->bd+Bo c<=10000->left<=20000->(Al (F5 l c bd):Int)<=left->Ep (La l) c bd left=(F5 l c bd,left-Al (F5 l c bd))
 | .mk o n s k ns cl,bd,left,hf,hb,hdp,hle,h0=>by
   have hn:=hf;rw[Mu,Bb]at hn;obtain⟨hn,Ji⟩:=hn;have Ji:cl.all C0=true:=Ji;have M4:=Jt (.mk o n s k ns cl);simp only[Cn.l]at M4;have Gf:=Ir (F5 l (.mk o n s k ns cl) bd);rw[Ep,Ac Aa];by_cases Eo:o=1\/o=2
   . obtain⟨e1,e2⟩:=jz hn Eo;simp only[Cn.l,Cn.names]at e1 e2;subst e1 e2
     have key:La l (.mk o n s k [] []) bd=F5 l (.mk o n s k [] []) bd:=by
      rw[F5];by_cases h1:o=1
      . obtain⟨Zd,g1,g2⟩:=V3 hn h1;simp only[Cn.n]at g1 g2 Zd;have hw:IntKind.i64.wrap (n-bd)=n-bd:=Au Aa Aa;rw[Ae h1,A1e,hw];by_cases hneg:n<bd
        . rw[Ae (show o≠1\/n-bd<0 from .inr Aa),Ae hneg]
        rw[Ac (show ¬(o≠1\/n-bd<0) by omega),Ac hneg]
        cases hx:l[(n-bd).toNat]? with
        |none=>
         simp only;rw[Au Aa Aa];unfold Ch at Zd ⊢;injection Zd with a1 a2 a3 a4 a5 a6
         rw[a3,a4,h1]
        |some x=>
         simp only;obtain⟨v1,v2,v3⟩:=Gz (hl x (Sr hx));rw[ww bd 0 Aa Aa x 0 20000 v3 Aa Aa Aa Aa];rfl
      rw[Ac h1,A1e,Ae (show o≠1\/IntKind.i64.wrap (n-bd)<0 from .inl h1),Mg]
     rw[Ae Eo,key]
   rw[Ac Eo];rw[F5,Ac (fun h=>Eo (.inl h))]at h0 ⊢;rw[Al]at h0
   have hu:(if Bw o=true then IntKind.i64.wrap (bd+1)else bd)=(if Bw o=true then bd+1 else bd):=by
    split
    . exact Au Aa Aa
    rfl
   rw[hu,Azw l hl Dw cl _ (left-1) Ji (by split<;>omega) (by split<;>omega) Aa Aa,Al];simp only[Cg,L1];omega
def Azw(l:List Cn)(hl:∀x∈l,Ar x=true)(Dw:l.length<=1000):∀(cl:List Cn) (bd left:Int),cl.all C0=true->0<=bd->bd+Cz cl<=10000->left<=20000->(Bd (Mg l cl bd):Int)<=left->Ec (La l) cl bd left=(Mg l cl bd,left-Bd (Mg l cl bd))
 | [],bd,left,_,_,_,_,_=>by simp[Ec,Mg,Bd]
 |c::cs,bd,left,hf,hb,hdp,hle,h0=>by
  rw[Er,Bb]at hf;simp only[Cz]at hdp;rw[Mg,Bd]at h0;rw[Ec,Azr l hl Dw c bd left hf.1 hb Aa hle Aa];simp only;rw[Azw l hl Dw cs bd _ hf.2 hb Aa Aa Aa,Mg,Bd];simp only[Cg,L1];omega
end
def A1g{l:Ax}(hv:Ar c=true)(hl:∀x∈l,Ar x=true)(Dw:l.length<=1000)(h:Ar (F5 l c 0)=true):Eg c l=(F5 l c 0,0):=by
 obtain⟨v1,v2,v3⟩:=Gz hv;obtain⟨w1,_,_⟩:=Gz h;have h2:l.all Ar=true:=List.all_eq_true.2 hl;rw[Eg,Ac (by rw[hv,h2]; simp),Ac Aa,Ki,Azr l hl Dw c 0 20000 v3 Aa Aa Aa Aa];rw[Ac (by rw[h]; simp only[Jo]; exact⟨Aa,Ab⟩)]
inductive Fu:List Cn->Int->List Cn->Int->Prop
 |nil (n:Int):Fu [] n [] n
 |beta {c f a b r:Cn} {l ps rs:List Cn} {n n1 n2 n3:Int} (h1:Fu c.l n ps n1) (hv:Ar (.mk c.op c.n c.s c.k c.names ps)=true) (ho:c.op=12) (hp:ps=[f,a]) (hf:f.op=11) (hb:f.l=[b])
  (hn:0<n1) (hu:Ar (F5 [a] b 0)=true) (h2:Fu [F5 [a] b 0] (n1-1) [r] n2) (h3:Fu l n2 rs n3):Fu (c::l) n (r::rs) n3
 |eta {c x f a:Cn} {l ps rs:List Cn} {n n1 n3:Int} (h1:Fu c.l n ps n1) (hv:Ar (.mk c.op c.n c.s c.k c.names ps)=true) (ho:c.op=11) (hp:ps=[x]) (hx:x.l=[f,a]) (he:Kw (.mk c.op c.n c.s c.k c.names ps)=true)
  (h3:Fu l n1 rs n3):Fu (c::l) n (Fe f (-1) 0::rs) n3
 |plain {c:Cn} {l ps rs:List Cn} {n n1 n3:Int} (h1:Fu c.l n ps n1) (hv:Ar (.mk c.op c.n c.s c.k c.names ps)=true) (hb:c.op=12->∃f a,ps=[f,a]/\f.op≠11) (he:Kw (.mk c.op c.n c.s c.k c.names ps)=false)
  (h3:Fu l n1 rs n3):Fu (c::l) n (.mk c.op c.n c.s c.k c.names ps::rs) n3
def Fu.le{l r:Ax}{n m:Int}(h:Fu l n r m):m<=n:=by
 induction h with
 |nil=>exact eh _
 |beta _ _ _ _ _ _ _ _ _ _ i1 i2 i3=>omega
 |eta _ _ _ _ _ _ _ i1 i3=>omega
 |plain _ _ _ _ _ i1 i3=>omega
def Fu.det{l r:Ax}{n m:Int}(h:Fu l n r m):∀{r':Ax} {m':Int},Fu l n r' m'->r=r'/\m=m':=by
 induction h with
 |nil=>intro r' m' h';cases h';exact⟨rfl,rfl⟩
 |beta h1 hv ho hp hf hb hn hu h2 h3 i1 i2 i3=>
  intro r' m' h'
  cases h' with
  |beta h1' hv' ho' hp' hf' hb' hn' hu' h2' h3'=>
   obtain⟨rfl,rfl⟩:=i1 h1';rw[hp]at hp';injection hp' with e1 e2
   injection e2 with e2 _
   subst e1 e2;rw[hb]at hb';injection hb' with e3 _
   subst e3;obtain⟨e4,rfl⟩:=i2 h2';injection e4 with e4 _
   subst e4;obtain⟨rfl,rfl⟩:=i3 h3'
   exact⟨rfl,rfl⟩
  |eta _ _ ho'=>omega
  |plain h1' _ hb'=>
   obtain⟨rfl,rfl⟩:=i1 h1';obtain⟨f',a',e,hf'⟩:=hb' ho;rw[hp]at e;injection e with e _
   subst e
   exact absurd hf hf'
 |eta h1 hv ho hp hx he h3 i1 i3=>
  intro r' m' h'
  cases h' with
  |beta _ _ ho'=>omega
  |eta h1' hv' ho' hp' hx' he' h3'=>
   obtain⟨rfl,rfl⟩:=i1 h1';rw[hp]at hp';injection hp' with e1 _
   subst e1;rw[hx]at hx';injection hx' with e2 _
   subst e2;obtain⟨rfl,rfl⟩:=i3 h3'
   exact⟨rfl,rfl⟩
  |plain h1' _ _ he'=>
   obtain⟨rfl,rfl⟩:=i1 h1'
   rw[he]at he';cases he'
 |plain h1 hv hb he h3 i1 i3=>
  intro r' m' h'
  cases h' with
  |beta h1' _ ho' hp' hf'=>
   obtain⟨rfl,rfl⟩:=i1 h1';obtain⟨f',a',e,hf''⟩:=hb ho';rw[hp']at e;injection e with e _
   subst e
   exact absurd hf' hf''
  |eta h1' _ _ _ _ he'=>
   obtain⟨rfl,rfl⟩:=i1 h1'
   rw[he]at he';cases he'
  |plain h1' hv' hb' he' h3'=>
   obtain⟨rfl,rfl⟩:=i1 h1';obtain⟨rfl,rfl⟩:=i3 h3';exact⟨rfl,rfl⟩
def vi(h:Ar c=true):Kh c false=(c,false):=by
 obtain⟨v1,v2,_⟩:=Gz h;rw[Kh,Ac (by simp only[Jo]; exact⟨Ab,Aa,Aa⟩)]
def Asy{x f a:Cn}(hl:c.l=[x])(hx:x.l=[f,a])(he:Kw c=true):x.op=12/\a.op=1/\a.n=0/\Ix f 0=false:=by
 simp only[Kw,hl,hx,Bb,Aw,Mn]at he;exact⟨he.2.1,he.2.2.1,he.2.2.2.1,he.2.2.2.2⟩
def Asx(h:Ar c=true):Hc 299 [Ad c] (.bool (Kw c)):=by
 have h1:=(Rv c).1 (Zq h).1;exact Bcn c h1.1 fun x hx=>((Rv x).1 (h1.2 x hx)).1
def Fu.walk{l r:Ax}{n m:Int}(h:Fu l n r m):n<=10000->Wp l (10000-n,false) r (10000-m,false):=by
 induction h with
 |nil n=>intro _;exact .nil _
 | @beta c f a b r0 l ps rs n n1 n2 n3 h1 hv ho hp hf hb hn hu h2 h3 i1 i2 i3=>
   intro hle;have l1:=h1.le;have l2:=h2.le;have hz:=Kn hv;have va:Ar a=true:=Jq hv (by simp[Cn.l,hp]);have vf:Ar f=true:=Jq hv (by simp[Cn.l,hp]);have vb:Ar b=true:=Jq vf (by simp[hb])
   have hbt:Pw b a (10000-n1)=(F5 [a] b 0,(10000-n1+1,false)):=by
    rw[Pw,Au Aa Aa,Ac Aa,A1g vb (by simpa using va) Ab hu];simp[vi hu]
   have e:10000-(n1-1)=10000-n1+1:=Aa;have hz2:=i2 Aa;rw[e]at hz2
   cases hz2 with
   | @cons _ _ _ z _ _ hz2 hn2=>
   obtain⟨z1,z2⟩:=z;cases hn2;refine .cons (z:=(z1,(10000-n2,false))) (vp c _ ps (10000-n1,false) _ (i1 hle) Aa (.beta _ f a b _ (vi hv) ho hp hf hb (by rw[hbt]; exact hz2) ?_ ?_)) (i3 Aa)
   . have:=Kn vb;omega
   have:=Kn va;omega
 | @eta c x f a l ps rs n n1 n3 h1 hv ho hp hx he h3 i1 i3=>
   intro hle;have l1:=h1.le;have hz:=Kn hv;obtain⟨_,_,_,M7⟩:=Asy (c:=.mk c.op c.n c.s c.k c.names ps) hp hx he;have vx:Ar x=true:=Jq hv (by simp[Cn.l,hp]);have vf:Ar f=true:=Jq vx (by simp[hx]);have hc:=Asx hv;rw[he]at hc;have:=ev.shift (out:=.mk c.op c.n c.s c.k c.names ps) (10000-n1) x f [a] (Fe f (-1) 0,0) (vi hv) ho hc hp hx (Bpa vf M7)
   exact .cons (z:=(Fe f (-1) 0,(10000-n1,false))) (vp c _ ps (10000-n1,false) _ (i1 hle) Aa (by simpa using this)) (i3 Aa)
 | @plain c l ps rs n n1 n3 h1 hv hb he h3 i1 i3=>
   intro hle;have l1:=h1.le;have hz:=Kn hv;have hc:=Asx hv;rw[he]at hc;exact .cons (z:=(.mk c.op c.n c.s c.k c.names ps,(10000-n1,false))) (vp c _ ps (10000-n1,false) _ (i1 hle) Aa (.plain _ (vi hv) hb hc)) (i3 Aa)
def Fu.ok{r:Cn}{m:Int}(h:Fu [c] 10000 [r] m):Yg c (0,false) (r,(10000-m,false)):=by
 have:=h.walk (eh _)
 cases this with
 | @cons _ _ _ z _ _ hz hn=>
 obtain⟨z1,z2⟩:=z;cases hn;exact hz
def Adb(H:Ai)(i:Nat)(x:HB):Ev (fun b=>b != i) H (H.set i x):=by
 intro b cs hV hb;have:b≠i:=by simpa using hV
 rw[Ia (Ib this)];exact hb
def Good(x:Int×Bool)(z:Cn×(Int×Bool)):Prop:=x.1<=z.2.1/\z.2.1<=10001/\(z.2.2=false->x.2=false/\z.2.1<=10000/\Rt z.1=true)/\Al z.1<=20000
def NzP(N:Nat)(c:Cn):Prop:=Rt c=true->Al c<=20000->∀s o,0<=s->s<=10001->(o=false->s<=10000)->10001-s<=(N:Int)->∃z,Yg c (s,o) z/\Good (s,o) z
def la:Al A3<=20000:=by simp[A3,Al,Bd]
def Awh(N:Nat):∀(l:Ax) (s:Int) (o:Bool),(∀ c∈l,NzP N c/\Rt c=true/\Al c<=20000)->0<=s->s<=10001->(o=false->s<=10000)->10001-s<=(N:Int)->
 ∃r y,Wp l (s,o) r y/\s<=y.1/\y.1<=10001/\(y.2=false->o=false/\y.1<=10000/\∀x∈r,Rt x=true)/\∀x∈r,Al x<=20000
 | [],s,o,_,h0,h1,h2,_=>⟨[],(s,o),.nil _,eh _,h1,fun h=>⟨h,h2 h,Ab⟩,Ab⟩
 |c::l,s,o,hl,h0,h1,h2,h3=>by
  obtain⟨hp,ha,hs⟩:=hl c Ab;obtain⟨⟨z,s1,o1⟩,hz,g1,g2,g3,g4⟩:=hp ha hs s o h0 h1 h2 h3;simp only at g1 g2 g3 g4;obtain⟨r,y,q1,q2,q3,q4,q5⟩:=Awh N l s1 o1 (fun x hx=>hl x (by simp[hx])) Aa g2 (fun h=>(g3 h).2.1) Aa;refine⟨z::r,y,.cons (z:=(z,(s1,o1))) hz q1,Aa,q3,fun h=>?_,fun x hx=>?_⟩
  . obtain⟨e1,e2,e3⟩:=q4 h;obtain⟨f1,_,f3⟩:=g3 e1;refine⟨f1,e2,fun x hx=>?_⟩;rcases List.mem_cons.1 hx with rfl|hx
    . exact f3
    exact e3 x hx
  rcases List.mem_cons.1 hx with rfl|hx
  . exact g4
  exact q5 x hx
def Afm(n:Nat):∀l:List Cn,(∀ x∈l,Al x<=n)->Bd l<=n*l.length
 | [],_=>by simp[Bd]
 |c::l,h=>by
  have h1:=h c Ab;have h2:=Afm n l fun x hx=>h x (by simp[hx]);simp only[Bd,Gq,Nat.mul_add];omega
def Adg:∀l:List Cn,l.length<=Bd l
 | []=>Ab
 |c::l=>by
  have:=Adg l;have:=Ir c;simp only[Bd,Gq]; omega
def Au7(out:Cn)(o:Bool):Kh out o=(A3,true)\/(o=false/\Kh out false=(out,false)/\Al out<=20000):=by
 unfold Kh;by_cases h:o=true\/20000<Al out\/400<Bo out
 . left;rw[Ae h]
 right
 simp only[Jo]at h;refine⟨by simpa using h.1,?_,Aa⟩;rw[Ac (by simp only[Jo]; exact⟨Ab,h.2.1,h.2.2⟩)]
def A5e(b a:Cn)(s:Int)(h0:0<=s)(h1:s<=10000):(Pw b a s).2.1=s+1/\((Pw b a s).2.2=false->s+1<=10000/\Rt (Pw b a s).1=true/\Al (Pw b a s).1<=20000):=by
 have e:IntKind.i64.wrap (s+1)=s+1:=Au Aa Aa;unfold Pw;rw[e];split
 . exact⟨rfl,Ab⟩
 rename_i h2;split
 . exact⟨rfl,Ab⟩
 rename_i h3;refine⟨rfl,fun h=>?_⟩;simp only at h ⊢;rcases Au7 (Eg b [a]).1 false with hk|⟨_,hk,hs⟩
 . rw[hk]at h;cases h
 rw[hk];have hv:=(ky b [a]).2 (by simpa using h3);exact⟨Aa,Zq hv⟩
def Awi(N:Nat)(hN:∀M,M<N->∀c,NzP M c)(c:Cn):NzP N c:=by
 intro ha hs s o h0 h1 h2 h3;cases o
 case true=>exact⟨_,Awe c s,⟨eh _,h1,Ab,la⟩⟩
 have h2:=h2 rfl;have Gf:0<N:=Aa;obtain⟨hac,hal⟩:=(Rv c).1 ha;have hse:=Ir c;obtain⟨r,⟨s1,o1⟩,q1,q2,q3,q4,q5⟩:=Awh N c.l s false (fun x hx=>⟨Awi N hN x,hal x hx,by have:=Yr hx;omega⟩) h0 h1 (fun _=>h2) h3;simp only at q2 q3 q4;have hlen:=q1.length;have S6:=Adg c.l;have S7:=Afm 20000 r q5
 have Cl:Al (.mk c.op c.n c.s c.k c.names r)<=1000000000000:=by
  rw[Al];have:20000*r.length<=20000*20000:=Aab _ Aa;omega
 have walk:=fun z hT=>vp c s r (s1,o1) z q1 Cl hT;rcases Au7 (.mk c.op c.n c.s c.k c.names r) o1 with hk|⟨rfl,hk,Um⟩
 . exact⟨_,walk _ (.over s1 o1 hk),⟨q2,q3,Ab,la⟩⟩
 obtain⟨_,q4b,q4c⟩:=q4 rfl
 have Uo:Rt (.mk c.op c.n c.s c.k c.names r)=true:=by
  rw[Rv];exact⟨⟨fun h=>by show r.length=2;rw[hlen]; exact hac.1 h,fun h=>by show r.length=1;rw[hlen]; exact hac.2 h⟩,q4c⟩
 have M7:=(Rv _).1 Uo;obtain⟨b,he,hb⟩:=Bco (.mk c.op c.n c.s c.k c.names r) M7.1 fun x hx=>((Rv x).1 (M7.2 x hx)).1;by_cases Eo:c.op=12
 . obtain⟨f,a,Q3⟩:∃f a,r=[f,a]:=by
    have:=hac.1 Eo;rw[<- hlen]at this
    match r,this with
    | [f,a],_=>exact⟨f,a,rfl⟩
   subst Q3;by_cases hf:f.op=11
   . obtain⟨b0,Y2⟩:∃b0,f.l=[b0]:=by
      have:=((Rv f).1 (q4c f Ab)).1.2 hf
      match h:f.l,this with
      | [x],_=>exact⟨x,rfl⟩
     have hfs:=q5 f Ab;have hfe:=Ir f
     have hbs:Al b0<=1000000000000:=by
      have:=Yr (l:=f.l) (x:=b0) (by simp[Y2]);omega
     obtain⟨t1,t2⟩:=A5e b0 a s1 Aa q4b;generalize hq:Pw b0 a s1=q at t1 t2;obtain⟨u,s2,o2⟩:=q;simp only at t1 t2;subst t1
     have key:∃z,Yg u (s1+1,o2) z/\Good (s1+1,o2) z:=by
      cases o2
      case true=>exact⟨_,Awe u _,⟨eh _,by show s1+1<=10001;omega,Ab,la⟩⟩
      obtain⟨t3,t4,t5⟩:=t2 rfl;exact hN (N-1) Aa u t4 t5 (s1+1) false Aa Aa (fun _=>t3) Aa
     obtain⟨z,hz,g1,g2,g3,g4⟩:=key;simp only at g1 g2 g3 g4;refine⟨z,walk z (.beta s1 f a b0 z hk Eo rfl hf Y2 (by rw[hq]; exact hz) hbs (by have:=q5 a Ab;omega)),⟨by simp only;omega,g2,fun h=>?_,g4⟩⟩;obtain⟨_,g6,g7⟩:=g3 h;exact⟨rfl,g6,g7⟩
   have M3:b=false:=by
    cases b
    . rfl
    have Fw:c.op=11:=(hb rfl).1;omega
   subst M3;exact⟨_,walk _ (.plain s1 hk (fun _=>⟨f,a,rfl,hf⟩) he),⟨q2,q3,fun _=>⟨rfl,q4b,Uo⟩,Um⟩⟩
 cases b
 case false=>exact⟨_,walk _ (.plain s1 hk (fun h=>absurd h Eo) he),⟨q2,q3,fun _=>⟨rfl,q4b,Uo⟩,Um⟩⟩
 obtain⟨Fw,x,f,a,Fd,Qb,Td⟩:=hb rfl;have Ra:=q5 x (by rw[show r=[x]from Fd]; simp);have hxe:=Ir x
 have hfs:Al f<=1000000000000:=by
  have:=Yr (l:=x.l) (x:=f) (by simp[Td]);omega
 obtain⟨p,hp,p1,p2⟩:=Brr f hfs;refine⟨_,walk _ (.shift s1 x f [a] p hk Fw he Fd Td hp),?_⟩;by_cases h:p.2=0
 . rw[Ae h];have:=Zq (p1 h);exact⟨q2,q3,fun _=>⟨rfl,q4b,this.1⟩,this.2⟩
 rw[Ac h];exact⟨q2,q3,Ab,la⟩
termination_by SizeOf.sizeOf c
decreasing_by exact Cn.lt_l ‹_›
def Bct(N:Nat):∀c,NzP N c:=by
 induction N using Nat.strongRecOn with
 |_ N ih=>exact Awi N ih
def Awd(c:Cn)(r:Cn)(s1:Int)(o1:Bool)(hz:Yg c (0,false) (r,(s1,o1))):Hc 173 [Ad c] (.tup [Ad r,.bool !o1]):=by
 have hC:Ro (fun x=>[.var (Ag c),.var [.int .i64 0,.int .i64 0,.str [],.sl .nilT [],.sl .nilT [],.sl .nilT []],.var [.int .i64 x.1,.bool x.2]]) 2 3:=
  ⟨⟨fun _=>rfl,fun n k _=>by simp[Be,A0,D9,AV.inScope]⟩,Aa,fun _ _=>rfl,fun _ _ _ _=>rfl⟩
 have hcall:=hz _ _ _ hC;refine Hg Beq fun Q hQ=>?_;simp[Ad];refine C1 (by simpa[Ad]using hcall) ?_;simp;refine Gr (fun b=>b != 1) [] Bc Bc ?_;simp;refine⟨Adb [_,_,_,_] 1 _,?_⟩;exact hQ (by simp[Ad])
def Fu.valid{l r:Ax}{n m:Int}(h:Fu l n r m):∀x∈r,Ar x=true:=by
 induction h with
 |nil=>simp
 |beta _ _ _ _ _ _ _ _ _ _ _ i2 i3=>
  intro x hx;rcases List.mem_cons.1 hx with rfl|hx
  . exact i2 _ Ab
  exact i3 x hx
 | @eta c x f a l ps rs n n1 n3 h1 hv ho hp hx he h3 i1 i3=>
   intro y hy;rcases List.mem_cons.1 hy with rfl|hy
   . have vx:Ar x=true:=Jq hv (by simp[Cn.l,hp]);exact A2m (Jq vx (by simp[hx])) (Asy (c:=.mk c.op c.n c.s c.k c.names ps) hp hx he).2.2.2
   exact i3 y hy
 |plain _ hv _ _ _ _ i3=>
  intro x hx;rcases List.mem_cons.1 hx with rfl|hx
  . exact hv
  exact i3 x hx
def Bcs(c:Cn)(hv:Ar c=true):∃r b,Hc 173 [Ad c] (.tup [Ad r,.bool b])/\Al r<=20000/\∀r' m,Fu [c] 10000 [r'] m->r=r'/\b=true:=by
 by_cases h:∃r' m,Fu [c] 10000 [r'] m
 . obtain⟨r',m,h⟩:=h;refine⟨r',true,Awd c r' _ false h.ok,(Gz (h.valid r' Ab)).1,fun r2 m2 h2=>?_⟩;obtain⟨e,_⟩:=h.det h2;injection e with e _
   exact⟨e,rfl⟩
 obtain⟨v1,v2⟩:=Zq hv;obtain⟨⟨r,s1,o1⟩,hz,g1,g2,g3,g4⟩:=Bct 10001 c v1 v2 0 false Aa Aa (fun _=>Aa) Aa;exact⟨r,!o1,Awd c r s1 o1 hz,g4,fun r2 m2 h2=>absurd ⟨r2,m2,h2⟩ h⟩
def vo(c:Cn)(hc:Al c<=1000000000000):∃p,Hc 102 [Ad c] (Bf p)/\Al p.1<=20000/\(Ar c=true->(p.2=0\/p.2=27)/\∀r m,Fu [c] 10000 [r] m->p=(r,0)):=by
 cases hv:Ar c
 . refine⟨(A3,1),?_,la,Ab⟩;refine Hg Ad2 fun Q hQ=>?_;simp[Ad];refine Ca (Lc c hc) ?_;simp[hv];exact hQ (by simp[Bf,Ad,E9])
 obtain⟨r,b,ht,hs,hx⟩:=Bcs c hv;refine⟨if b=true then(r,0)else(A3,27),?_,by cases b<;>simp[hs,la],fun _=>⟨by cases b<;>simp,fun r' m h=>?_⟩⟩
 case refine_2=>
  obtain⟨rfl,rfl⟩:=hx r' m h;rfl
 clear hx;refine Hg Ad2 fun Q hQ=>?_;simp[Ad];refine Ca (Lc c hc) ?_;simp[hv];refine Ca ht ?_;cases b
 . simp[Ad];exact hQ (by simp[Bf,Ad,E9])
 simp[Ad];refine Ca (Adw r) ?_;simp[Ad];exact hQ (by simp[Bf,Ad])
section
attribute [-simp] Int.not_lt Int.not_le
attribute [local simp] Cb Cq
open Classical in
noncomputable def Nd(c:Cn):Cn×Int:=if h:Al c<=1000000000000 then(vo c h).choose else(A3,0)
def vn(c:Cn)(h:Al c<=1000000000000):Hc 102 [Ad c] (Bf (Nd c))/\Al (Nd c).1<=20000:=by
 rw[Nd,Ob h]; exact⟨(vo c h).choose_spec.1,(vo c h).choose_spec.2.1⟩
def Adq(h:Ar c=true):((Nd c).2=0\/(Nd c).2=27)/\∀r m,Fu [c] 10000 [r] m->Nd c=(r,0):=by
 have hc:Al c<=1000000000000:=dw h;rw[Nd,Ob hc]; exact(vo c hc).choose_spec.2.2 h
def Bo3(c:Cn)(d:Int)(A:Ai)(A8:Be A.length A=true)(hv:Ar c=true):HP 236 [Ad c,.int .i64 d] A (Bf (Nd c)) A:=by
 have hn:=(vn c (dw hv)).1;generalize Nd c=p at hn ⊢;obtain⟨r,e⟩:=p;refine Hg Aw8 fun Q hQ=>?_;simp[Ad,Ap c];refine Ca hn ?_;simp[Bf,Ad,Ap r];exact hQ (by simp[A8,Bf,Ad,Ap r])
noncomputable def U1(s:Sm):Sm×Int:=Gt (fun c _=>Nd c) s 0
def Bo4(s:Sm)(hf1:Cu s=true):Hc 161 [An s] (Db (U1 s)):=by
 have Ll:=oo 236 [] [.var (Bx s),.var L4] (fun c _=>Nd c) (fun b hb=>by
  match b,hb with
  |0,_=>exact⟨_,rfl⟩
  |1,_=>exact⟨_,rfl⟩) (fun n _=>by simp[Be,A0,D9,AV.inScope,L4,Av s]) (fun n hn=>by simp[A0])
  (fun c k hv _ _=>by simpa using Bo3 c k [.var (Bx s),.var L4] (by simp[Be,A0,D9,AV.inScope,L4,Av s]) hv) 400 s 0 (Uc hf1) Aa Aa
 have e:U1 s=Gt (fun c _=>Nd c) s 0:=rfl;rw[<- e]at Ll;generalize U1 s=p at Ll;obtain⟨r,e⟩:=p;refine Hg Aw7 fun Q hQ=>?_;simp[An,Av s];refine C1 (r:=Db (r,e)) (by simpa[An,L4,Av s]using Ll) ?_;simp[Db,An,Av r];exact hQ (by simp[Db,An,Av r])
def Bb7(s:Sm)(hf1:Cu s=true):Dd (U1 s).1:=
 wu (fun c _=>Nd c) s 0 400 (Uc hf1) Aa Aa fun c k hv _ _=>by
  have:=(vn c (dw hv)).2;show Al (Nd c).1<=_;omega
noncomputable def J3(s:Sm):Sm×Int:=if Cu s=false then(Dl,1)else if(U1 s).2≠0 then(Dl,27)else Jf (U1 s)
def Bor(s:Sm)(hc:Dd s):Hc 98 [An s] (Db (J3 s)):=by
 cases hf1:Cu s
 . have key:J3 s=(Dl,1):=by rw[J3,Ae hf1]
   refine Hg vu fun Q hQ=>?_;simp[An,Av s];refine Ca (du s hc) ?_;simp[hf1];exact hQ (by simp[key,Db,An,Kl])
 have key:J3 s=if(U1 s).2≠0 then(Dl,27)else Jf (U1 s):=by rw[J3,Ac (by simp[hf1])]
 have ht:=Bo4 s hf1;have Li:=xb _ (Bb7 s hf1);generalize U1 s=p at key ht Li;obtain⟨y,e⟩:=p;simp only at key;by_cases h0:e=0
 . have key:J3 s=Jf (y,e):=by rw[key,Ac (by simp[h0])]
   have h0':(e != 0)=false:=by simpa using h0
   generalize Jf (y,e)=q at key Li;obtain⟨u,f⟩:=q;refine Hg vu fun Q hQ=>?_;simp[An,Av s];refine Ca (du s hc) ?_;simp[hf1];refine Ca ht ?_;simp[Db,An,Av y,h0];refine Ca Li ?_ (he:=by simp[An,Av y,h0]);simp[Db,An,Av u];exact hQ (by simp[key,Db,An,Av u])
 have key:J3 s=(Dl,27):=by rw[key,Ae h0]
 have h0':(e != 0)=true:=by simpa using h0
 refine Hg vu fun Q hQ=>?_;simp[An,Av s];refine Ca (du s hc) ?_;simp[hf1];refine Ca ht ?_;simp[Db,An,Av y,h0];exact hQ (by simp[key,Db,An,Kl])
def gw{p:Sm×Int}(h:(Jf p).2=0):p.2=0/\Cu p.1=true/\Jf p=(p.1,0):=by
 unfold Jf at h ⊢;split at h
 . simp at h
 rename_i hn;rw[Ac hn];simp only[Jo,xz]at hn;exact⟨by simpa using hn.1,hn.2,rfl⟩
def Av3{s:Sm}(h:(J3 s).2=0):Cu s=true/\Cu (J3 s).1=true/\(J3 s).1.op=s.op:=by
 unfold J3 at h ⊢;split at h
 . simp at h
 rename_i h1;rw[Ac h1];split at h
 . simp at h
 rename_i h2;rw[Ac h2];obtain⟨e1,e2,e3⟩:=gw h;rw[e3];refine⟨by simpa using h1,e2,?_⟩;unfold U1 at e1 e2 ⊢;rw[wv]at e1 ⊢;split at e1
 . rename_i hc;exact absurd e1 hc.2
 rename_i hc;rw[Ac hc];split at e1
 . rename_i hd;exact absurd e1 hd
 rename_i hd;rw[Ac hd]; rfl
def xh{s:Sm}{l:Ax}(h:(Ga s l).2=0):Cu s=true/\Cu (Ga s l).1=true/\(Ga s l).1.op=s.op:=by
 unfold Ga at h ⊢;split at h
 . simp at h
 rename_i h1;rw[Ac h1];split at h
 . simp at h
 rename_i h2;rw[Ac h2];obtain⟨e1,e2,e3⟩:=gw h;rw[e3];simp only[Jo,xz]at h1;refine⟨h1.1,e2,?_⟩;rw[wv]at e1 ⊢;split at e1
 . rename_i hc;exact absurd e1 hc.2
 rename_i hc;rw[Ac hc];split at e1
 . rename_i hd;exact absurd e1 hd
 rename_i hd;rw[Ac hd]; rfl
def A1m:∀(h:Nat) (s:Sm),Lb h s->(∀ x,Cp x=true->Al x.con<=1000000000000)->Dd s
 |0,_,ht,_=>ht.elim
 |h+1,s,ht,hn=>by
  rw[Ju];exact⟨hn s ht.1,fun x hx=>A1m h x (ht.2 x hx) hn⟩
def Bcj{s:Sm}(h:Cp s=true):Al s.con<=1000000000000:=by
 have h':=h;simp only[Cp,Bb]at h';have h2:=h'.2.1;unfold m2 at h2;split at h2
 . simp only[Ar,Bb,Aw]at h2;omega
 rw[md]at h2;simp only[Bb]at h2
 have hl:s.con.l=[]:=by
  have:=h2.2
  cases hl:s.con.l with
  |nil=>rfl
  |cons x xs=>rw[hl]at this;simp[A3,Cn.l,Cs]at this
 have:=Ir s.con;rw[hl]at this;simp[Bd]at this;omega
def ib{s:Sm}(h:Cu s=true):Dd s:=A1m 400 s (Uc h) fun _ h=>Bcj h
def Re(c:Cn):Hc 265 [Ad c] (.bool (Fg c)):=by
 refine Hg Bgu fun Q hQ=>?_;simp[Ad,Ap c]
 repeat' (first |(refine C3 (fun hb=>?_) (fun hb=>?_)<;>(try simp only[bN]at hb)<;>simp[hb,Hu])|(refine Em (fun hb=>?_) (fun hb=>?_)<;>(try simp only[bN]at hb)<;>simp[hb,Hu]))
 all_goals exact hQ (by simp[Fg, *])
def dh(op:Int):Hc 192 [.int .i64 op] (.bool (Dj op)):=by
 refine Hg Bgt fun Q hQ=>?_;simp
 repeat' (first |(refine C3 (fun hb=>?_) (fun hb=>?_)<;>(try simp only[bN]at hb)<;>simp[hb])|(refine Em (fun hb=>?_) (fun hb=>?_)<;>(try simp only[bN]at hb)<;>simp[hb,Dj]))
 all_goals exact hQ (by simp[*,Dj])
def Rw(n:Int):Int:=if n=6\/n=11\/n=13\/n=14 then 1 else if n=1\/n=2\/n=3\/n=4\/n=5\/n=7\/n=8\/n=9\/n=10\/n=12 then 2 else 0
def Bls(n:Int):Hc 307 [.int .i64 n] (.int .i64 (Rw n)):=by
 refine Hg Bgr fun Q hQ=>?_;simp
 repeat' (first |(refine C3 (fun hb=>?_) (fun hb=>?_)<;>(try simp only[bN]at hb)<;>simp[hb])|(refine Em (fun hb=>?_) (fun hb=>?_)<;>(try simp only[bN]at hb)<;>simp[hb,Rw]))
 all_goals exact hQ (by simp[*,Rw])
def Rg(op:Int):Int:=if op=1\/op=2\/op=3\/op=19 then 0 else if op=4\/op=6\/op=7\/op=8\/op=11\/op=12\/op=14\/op=15\/op=16 then 1 else if op=5\/op=9\/op=17 then 2 else -1
def ke(op:Int):Hc 264 [.int .i64 op] (.int .i64 (Rg op)):=by
 refine Hg Bg2 fun Q hQ=>?_;simp
 repeat' (first |(refine C3 (fun hb=>?_) (fun hb=>?_)<;>(try simp only[bN]at hb)<;>simp[hb])|(refine Em (fun hb=>?_) (fun hb=>?_)<;>(try simp only[bN]at hb)<;>simp[hb,Rg]))
 all_goals exact hQ (by simp[*,Rg])
def O9(l:List (List UInt8)):Bool:=l.all Ff&&(decide (l.length<=1000)&&asc l)
def kc(l:List Bu):Hc 263 [.sl .none (At l)] (.bool (O9 l)):=by
 have key:O9 l=(l.all Ff&&(decide (l.length<=1000)&&asc l)):=rfl;refine Hf Bg0 fun Am Q hQ=>?_;have B5:l.length<=1073741824:=by simpa[Bl,AV.fits,A1,At]using Am.1.1
 clear Am;simp;refine WL [] (fun n f h G=>∃k:Nat,k+n=l.length/\f 3= .int .i64 k/\(l.drop k).all Ff=l.all Ff/\G=[]) (l.length) Ab ⟨0,Ab,rfl,rfl,rfl⟩ ?_;rintro n f h G ⟨k,hk,h3,hs,rfl⟩ Q2 Aj;simp[h3];by_cases Af:k<l.length
 . have hd:=Ct Af;rw[hd,Er]at hs
   have hg:∀h:k<(At l).length,(At l)[k]=[.str l[k]]:=fun h=>by
    have:=Afv l k Af;rw[Il h]at this;exact ez this
   simp[Af,Hu,hg];refine Ca (oc l[k]) ?_ (ha:=Bc) (hr:=Bc) (he:=Bc);cases hl:Ff l[k]
   . have e:O9 l=false:=by rw[key,<-hs,hl]; simp
     simp;refine Aj (Lr ?_);simp;exact hQ (by simp[e])
   simp[Au (n:=(k:Int)+1) Aa Aa];refine Aj (Ln h ?_);rw[hl,lj]at hs;exact⟨k+1,Aa,Ab,hs,rfl⟩
 have Ky:l.all Ff=true:=by rw[<- hs,Cm Aa]; rfl
 rw[Ky,lj]at key;simp[Af,Hu];refine Aj (Lx ?_);by_cases hb:l.length<=1000
 . have hb':(l.length:Int)<=1000:=by omega
   have e:O9 l=asc l:=by rw[key]; simp[hb]
   simp[hb',Hu];refine Ca (Aee l) ?_;simp;exact hQ
 have hb':¬(l.length:Int)<=1000:=by omega
 have e:O9 l=false:=by rw[key]; simp[hb]
 simp[hb',Hu];exact hQ
def Pb(t:Te):Bool:=if t.op=1 then decide (0<=t.n)&&decide (t.n<=20000)else if t.op=2 then decide (-4503599627370496<=t.n)&&decide (t.n<=4503599627370496)else if t.op=18 then decide (0<Rw t.n)&&decide ((t.l.length:Int)=Rw t.n)else
 if t.op=19 then decide (1<=t.n)&&decide (t.n<=1000000)else decide (t.n=0)
def kd(t:Te):Hc 261 [Ah t] (.bool (Pb t)):=by
 have ha:=Bls t.n
 have key:Pb t=if t.op=1 then decide (0<=t.n)&&decide (t.n<=20000)else if t.op=2 then decide (-4503599627370496<=t.n)&&decide (t.n<=4503599627370496)else if t.op=18 then decide (0<Rw t.n)&&decide ((t.l.length:Int)=Rw t.n)else
  if t.op=19 then decide (1<=t.n)&&decide (t.n<=1000000)else decide (t.n=0):=rfl
 generalize Rw t.n=ar at ha key;refine Hg Bg1 fun Q hQ=>?_;by_cases Ka:t.op=18
 . rw[Ac Aa,Ac Aa,Ae Ka]at key;simp[Ah,Aq t,Ka];refine Wd ?_;simp;refine Da ha ?_;by_cases h0:0<ar
   . simp[h0];refine Da ha ?_;simp;exact hQ
   simp[h0];exact hQ
 rw[Ac Ka]at key;simp[Ah,Aq t]
 repeat' (first |(refine C3 (fun hb=>?_) (fun hb=>?_)<;>(try simp only[bN]at hb)<;>simp[hb,Ka])|(refine Em (fun hb=>?_) (fun hb=>?_)<;>(try simp only[bN]at hb)<;>simp[hb]))
 all_goals exact hQ
def kg(t:Te):Hc 262 [Ah t] (.bool (I0 t)):=by
 refine Hg Bg4 fun Q hQ=>?_;simp[Ah,Aq t];by_cases h3:t.op=3
 . have e:decide ((t.s.length:Int)<=16384)=decide (t.s.length<=16384):=by congr 1;simp;omega
   simp[h3];exact hQ (by simp[I0,h3,e])
 by_cases Fw:t.op=11
 . simp[Fw];refine Ca (oc t.s) ?_;simp;exact hQ (by simp[I0,Fw])
 by_cases Eo:t.op=12
 . simp[Eo];refine Ca (oc t.s) ?_;simp;exact hQ (by simp[I0,Eo])
 simp[h3,Fw,Eo];exact hQ (by simp[I0,h3,Fw,Eo])
def g1(t:Te):Bool:=!(decide (t.op<1)||(decide (19<t.op)||(!Pb t || !I0 t)))
def g2(t:Te):Bool:=if t.op=10 then O9 t.names&&decide (t.l.length=t.names.length)else if t.op=13 then O9 t.names&&(!decide (t.names.length<1)&&decide ((t.l.length:Int)=IntKind.i64.wrap (t.names.length+1)))else
 if t.op=18 then decide (t.names.length=0)else decide (t.names.length=0)&&decide ((t.l.length:Int)=Rg t.op)
def g3(t:Te):Bool:=if t.op=6 then Eu t.k else decide (t.k.l.length=0)
def g4(t:Te):Bool:=if Dj t.op=true then Ar t.con else Fg t.con
def g5(t:Te):Bool:=if t.op=8 then Ar t.to else Fg t.to
def Bnh(n len:Int):(decide (0<Rw n)&&decide (len=Rw n))=((decide (1<=n)&&decide (n<=14))&&decide (len=fj n)):=by
 by_cases h:1<=n/\n<=14
 . obtain rfl|rfl|rfl|rfl|rfl|rfl|rfl|rfl|rfl|rfl|rfl|rfl|rfl|rfl:n=1\/n=2\/n=3\/n=4\/n=5\/n=6\/n=7\/n=8\/n=9\/n=10\/n=11\/n=12\/n=13\/n=14:=by omega
   all_goals simp[Rw,fj]
 have e:Rw n=0:=by unfold Rw;rw[Ac Aa,Ac Aa]
 have e2:(decide (1<=n)&&decide (n<=14))=false:=by simp only[li,Bj]; omega
 rw[e,e2]; simp
def Bay(k:Kd)(h:k.l.length=0):Eu k=true:=by
 cases k with |mk l=>
 simp only[Kd.l,List.length_eq_zero_iff]at h;subst h;decide
def j0(t:Te):Ew t=(g1 t&&(g2 t&&(g3 t&&(g4 t&&g5 t)))):=by
 have e3:cq t=g3 t:=by
  unfold cq g3;by_cases h:t.op=6
  . rw[Ae h];by_cases hk:t.k.l.length=0
    . simp[h,hk,Bay t.k hk]
    simp only[h,hk]; simp
  rw[Ac h]; simp[h]
 have e4:P0 t.con (Dj t.op)=g4 t:=by unfold P0 g4;rw[Adr]
 have e5:P0 t.to (decide (t.op=8))=g5 t:=by
  unfold P0 g5;rw[Adr]; by_cases h:t.op=8<;>simp[h]
 have e1:Zg t=(g1 t&&g2 t):=by
  unfold Zg g1 g2 cw Pb dj jx O9 Rg;rw[Bnh];have hle:decide (t.names.length<=1000)= !decide (1000<t.names.length):=by by_cases h:t.names.length<=1000<;>simp[h]<;>omega
  rw[hle];generalize I0 t=tx;generalize t.names.all Ff=a;generalize asc t.names=b;generalize t.op=op;generalize t.n=n;generalize t.l.length=q;generalize t.names.length=m;generalize IntKind.i64.wrap ((m:Int)+1)=w;have hqm:decide ((q:Int)=(m:Int))=decide (q=m):=by simp only[mf]; omega
  by_cases hr:op<1\/19<op
  . have:(decide (op<1)||decide (19<op))=true:=by simpa using hr
    rcases hr with hr|hr<;>simp[hr]
  obtain rfl|rfl|rfl|rfl|rfl|rfl|rfl|rfl|rfl|rfl|rfl|rfl|rfl|rfl|rfl|rfl|rfl|rfl|rfl:op=1\/op=2\/op=3\/op=4\/op=5\/op=6\/op=7\/op=8\/op=9\/op=10\/op=11\/op=12\/op=13\/op=14\/op=15\/op=16\/op=17\/op=18\/op=19:=by omega
  all_goals (by_cases hm:1000<m<;>by_cases h0:m=0<;>cases a<;>cases b<;>cases tx<;>simp[hm,h0,hqm,Agt,Ya])
 rw[Ew,e1,e3,e4,e5,Ya]
def Bb9(t:Te)(Ig:t.op=10):Hc 191 [Ah t] (.bool (Ew t)):=by
 have Lk:=kd t;have Lm:=kg t;have Sd:=kc t.names;have Mf:=ke t.op;have Ej:=dh t.op;have De:=Re t.con;have hn2:=Re t.to;have Oh:=Xz t.k;have H8:=Lw t.con;have Jl:=Lw t.to;have key:=j0 t;have k1:g1 t= !(decide (t.op<1)||(decide (19<t.op)||(!Pb t || !I0 t))):=rfl;have k2:g2 t=(O9 t.names&&decide (t.l.length=t.names.length)):=by unfold g2;simp[Ig]
 have k3:g3 t=decide (t.k.l.length=0):=by unfold g3;simp[Ig]
 have k4:g4 t=if Dj t.op=true then Ar t.con else Fg t.con:=rfl;have k5:g5 t=Fg t.to:=by unfold g5;simp[Ig]
 generalize Pb t=bn at Lk k1;generalize I0 t=bx at Lm k1;generalize O9 t.names=bl at Sd k2;generalize Rg t.op=pt at Mf k2;generalize Eu t.k=bk at Oh k3;generalize Dj t.op=bh at Ej k4;generalize Ar t.con=v1 at H8 k4;generalize Ar t.to=v2 at Jl k5;generalize Fg t.con=z1 at De k4;generalize Fg t.to=z2 at hn2 k5;generalize Ew t=z at key;generalize g1 t=y1 at k1 key;generalize g2 t=y2 at k2 key;generalize g3 t=y3 at k3 key;generalize g4 t=y4 at k4 key;generalize g5 t=y5 at k5 key;refine Hg j5 fun Q hQ=>?_;simp[Ah,Aq t,Ig];refine Ca Lk ?_ (he:=by simp[Ah,Aq t,Ig]);cases bn
 . try simp
   exact hQ
 try simp
 refine Ca Lm ?_ (he:=by simp[Ah,Aq t,Ig]);cases bx
 . try simp
   exact hQ
 try simp
 refine Ca Sd ?_ (he:=Ab);cases bl
 . try simp
   exact hQ
 try simp[Hu]
 by_cases hl:t.l.length=t.names.length
 case neg=>
  have Ci:¬(t.l.length:Int)=t.names.length:=Aa
  try simp[Ci]
  exact hQ
 try simp[hl]
 by_cases hk:t.k.l.length=0
 case neg=>
  have J0:¬t.k.l=[]:=fun h=>hk (by rw[h]; rfl)
  try simp[J0]
  exact hQ
 have J0:t.k.l=[]:=Ye hk
 try simp[J0]
 refine Ca Ej ?_ (he:=by simp[Ig]);cases bh
 . try simp
   refine Ca Ej ?_ (he:=by simp[Ig])
   try simp
   refine Ca De ?_ (he:=by simp[Ad,Ap]);cases z1
   . try simp
     exact hQ
   try simp
   refine Ca hn2 ?_ (he:=by simp[Ad,Ap])
   try simp
   exact hQ
 try simp
 refine Ca H8 ?_ (he:=by simp[Ad,Ap]);cases v1
 . try simp
   exact hQ
 try simp
 refine Ca Ej ?_ (he:=by simp[Ig])
 try simp
 refine Ca hn2 ?_ (he:=by simp[Ad,Ap])
 try simp
 exact hQ
def Bca(t:Te)(Hn:t.op=13):Hc 191 [Ah t] (.bool (Ew t)):=by
 have Lk:=kd t;have Lm:=kg t;have Sd:=kc t.names;have Mf:=ke t.op;have Ej:=dh t.op;have De:=Re t.con;have hn2:=Re t.to;have Oh:=Xz t.k;have H8:=Lw t.con;have Jl:=Lw t.to;have key:=j0 t;have k1:g1 t= !(decide (t.op<1)||(decide (19<t.op)||(!Pb t || !I0 t))):=rfl;have k2:g2 t=(O9 t.names&&(!decide (t.names.length<1)&&decide ((t.l.length:Int)=IntKind.i64.wrap (t.names.length+1)))):=by unfold g2;rw[Ac Aa,Ae Hn]
 have k3:g3 t=decide (t.k.l.length=0):=by unfold g3;simp[Hn]
 have k4:g4 t=if Dj t.op=true then Ar t.con else Fg t.con:=rfl;have k5:g5 t=Fg t.to:=by unfold g5;simp[Hn]
 generalize Pb t=bn at Lk k1;generalize I0 t=bx at Lm k1;generalize O9 t.names=bl at Sd k2;generalize Rg t.op=pt at Mf k2;generalize Eu t.k=bk at Oh k3;generalize Dj t.op=bh at Ej k4;generalize Ar t.con=v1 at H8 k4;generalize Ar t.to=v2 at Jl k5;generalize Fg t.con=z1 at De k4;generalize Fg t.to=z2 at hn2 k5;generalize Ew t=z at key;generalize g1 t=y1 at k1 key;generalize g2 t=y2 at k2 key;generalize g3 t=y3 at k3 key;generalize g4 t=y4 at k4 key;generalize g5 t=y5 at k5 key;refine Hg j5 fun Q hQ=>?_;simp[Ah,Aq t,Hn];refine Ca Lk ?_ (he:=by simp[Ah,Aq t,Hn]);cases bn
 . try simp
   exact hQ
 try simp
 refine Ca Lm ?_ (he:=by simp[Ah,Aq t,Hn]);cases bx
 . try simp
   exact hQ
 try simp
 refine Ca Sd ?_ (he:=Ab);cases bl
 . try simp
   exact hQ
 try simp[Hu]
 by_cases hm:t.names.length<1
 . have H7:(t.names.length:Int)<1:=by omega
   try simp[H7]
   exact hQ
 have H7:¬(t.names.length:Int)<1:=Aa;by_cases hl:(t.l.length:Int)=IntKind.i64.wrap (t.names.length+1)
 case neg=>
  try simp[H7,hl,Hu]
  exact hQ
 try simp[H7,hl,Hu]
 by_cases hk:t.k.l.length=0
 case neg=>
  have J0:¬t.k.l=[]:=fun h=>hk (by rw[h]; rfl)
  try simp[J0]
  exact hQ
 have J0:t.k.l=[]:=Ye hk
 try simp[J0]
 refine Ca Ej ?_ (he:=by simp[Hn]);cases bh
 . try simp
   refine Ca Ej ?_ (he:=by simp[Hn])
   try simp
   refine Ca De ?_ (he:=by simp[Ad,Ap]);cases z1
   . try simp
     exact hQ
   try simp
   refine Ca hn2 ?_ (he:=by simp[Ad,Ap])
   try simp
   exact hQ
 try simp
 refine Ca H8 ?_ (he:=by simp[Ad,Ap]);cases v1
 . try simp
   exact hQ
 try simp
 refine Ca Ej ?_ (he:=by simp[Hn])
 try simp
 refine Ca hn2 ?_ (he:=by simp[Ad,Ap])
 try simp
 exact hQ
def Bcb(t:Te)(Ka:t.op=18):Hc 191 [Ah t] (.bool (Ew t)):=by
 have Lk:=kd t;have Lm:=kg t;have Sd:=kc t.names;have Mf:=ke t.op;have Ej:=dh t.op;have De:=Re t.con;have hn2:=Re t.to;have Oh:=Xz t.k;have H8:=Lw t.con;have Jl:=Lw t.to;have key:=j0 t;have k1:g1 t= !(decide (t.op<1)||(decide (19<t.op)||(!Pb t || !I0 t))):=rfl;have k2:g2 t=decide (t.names.length=0):=by unfold g2;rw[Ac Aa,Ac Aa,Ae Ka]
 have k3:g3 t=decide (t.k.l.length=0):=by unfold g3;simp[Ka]
 have k4:g4 t=if Dj t.op=true then Ar t.con else Fg t.con:=rfl;have k5:g5 t=Fg t.to:=by unfold g5;simp[Ka]
 generalize Pb t=bn at Lk k1;generalize I0 t=bx at Lm k1;generalize O9 t.names=bl at Sd k2;generalize Rg t.op=pt at Mf k2;generalize Eu t.k=bk at Oh k3;generalize Dj t.op=bh at Ej k4;generalize Ar t.con=v1 at H8 k4;generalize Ar t.to=v2 at Jl k5;generalize Fg t.con=z1 at De k4;generalize Fg t.to=z2 at hn2 k5;generalize Ew t=z at key;generalize g1 t=y1 at k1 key;generalize g2 t=y2 at k2 key;generalize g3 t=y3 at k3 key;generalize g4 t=y4 at k4 key;generalize g5 t=y5 at k5 key;refine Hg j5 fun Q hQ=>?_;simp[Ah,Aq t,Ka];refine Ca Lk ?_ (he:=by simp[Ah,Aq t,Ka]);cases bn
 . try simp
   exact hQ
 try simp
 refine Ca Lm ?_ (he:=by simp[Ah,Aq t,Ka]);cases bx
 . try simp
   exact hQ
 try simp
 by_cases hm:t.names.length=0
 case neg=>
  have H7:¬At t.names=[]:=fun h=>hm (by simpa[At]using h)
  try simp[H7,Hu]
  exact hQ
 have H7:At t.names=[]:=by simpa[At]using hm
 try simp[H7]
 by_cases hk:t.k.l.length=0
 case neg=>
  have J0:¬t.k.l=[]:=fun h=>hk (by rw[h]; rfl)
  try simp[J0]
  exact hQ
 have J0:t.k.l=[]:=Ye hk
 try simp[J0]
 refine Ca Ej ?_ (he:=by simp[Ka]);cases bh
 . try simp
   refine Ca Ej ?_ (he:=by simp[Ka])
   try simp
   refine Ca De ?_ (he:=by simp[Ad,Ap]);cases z1
   . try simp
     exact hQ
   try simp
   refine Ca hn2 ?_ (he:=by simp[Ad,Ap])
   try simp
   exact hQ
 try simp
 refine Ca H8 ?_ (he:=by simp[Ad,Ap]);cases v1
 . try simp
   exact hQ
 try simp
 refine Ca Ej ?_ (he:=by simp[Ka])
 try simp
 refine Ca hn2 ?_ (he:=by simp[Ad,Ap])
 try simp
 exact hQ
def Bcc(t:Te)(h6:t.op=6):Hc 191 [Ah t] (.bool (Ew t)):=by
 have Lk:=kd t;have Lm:=kg t;have Sd:=kc t.names;have Mf:=ke t.op;have Ej:=dh t.op;have De:=Re t.con;have hn2:=Re t.to;have Oh:=Xz t.k;have H8:=Lw t.con;have Jl:=Lw t.to;have key:=j0 t;have k1:g1 t= !(decide (t.op<1)||(decide (19<t.op)||(!Pb t || !I0 t))):=rfl;have k2:g2 t=(decide (t.names.length=0)&&decide ((t.l.length:Int)=Rg t.op)):=by unfold g2;rw[Ac Aa,Ac Aa,Ac Aa]
 have k3:g3 t=Eu t.k:=by unfold g3;simp[h6]
 have k4:g4 t=if Dj t.op=true then Ar t.con else Fg t.con:=rfl;have k5:g5 t=Fg t.to:=by unfold g5;simp[h6]
 generalize Pb t=bn at Lk k1;generalize I0 t=bx at Lm k1;generalize O9 t.names=bl at Sd k2;generalize Rg t.op=pt at Mf k2;generalize Eu t.k=bk at Oh k3;generalize Dj t.op=bh at Ej k4;generalize Ar t.con=v1 at H8 k4;generalize Ar t.to=v2 at Jl k5;generalize Fg t.con=z1 at De k4;generalize Fg t.to=z2 at hn2 k5;generalize Ew t=z at key;generalize g1 t=y1 at k1 key;generalize g2 t=y2 at k2 key;generalize g3 t=y3 at k3 key;generalize g4 t=y4 at k4 key;generalize g5 t=y5 at k5 key;refine Hg j5 fun Q hQ=>?_;simp[Ah,Aq t,h6];refine Ca Lk ?_ (he:=by simp[Ah,Aq t,h6]);cases bn
 . try simp
   exact hQ
 try simp
 refine Ca Lm ?_ (he:=by simp[Ah,Aq t,h6]);cases bx
 . try simp
   exact hQ
 try simp
 refine Wd ?_;by_cases hm:t.names.length=0
 case neg=>
  have H7:¬At t.names=[]:=fun h=>hm (by simpa[At]using h)
  try simp[hm,Hu]
  exact hQ
 have H7:At t.names=[]:=by simpa[At]using hm
 try simp[H7]
 refine Da Mf ?_ (he:=by simp[h6]);by_cases hl:(t.l.length:Int)=pt
 case neg=>
  try simp[hl]
  exact hQ
 try simp[hl]
 refine Ca Oh ?_ (he:=by simp[Ba,Df]);cases bk
 . try simp
   exact hQ
 try simp
 refine Ca Ej ?_ (he:=by simp[h6]);cases bh
 . try simp
   refine Ca Ej ?_ (he:=by simp[h6])
   try simp
   refine Ca De ?_ (he:=by simp[Ad,Ap]);cases z1
   . try simp
     exact hQ
   try simp
   refine Ca hn2 ?_ (he:=by simp[Ad,Ap])
   try simp
   exact hQ
 try simp
 refine Ca H8 ?_ (he:=by simp[Ad,Ap]);cases v1
 . try simp
   exact hQ
 try simp
 refine Ca Ej ?_ (he:=by simp[h6])
 try simp
 refine Ca hn2 ?_ (he:=by simp[Ad,Ap])
 try simp
 exact hQ
def Bcd(t:Te)(h8:t.op=8):Hc 191 [Ah t] (.bool (Ew t)):=by
 have Lk:=kd t;have Lm:=kg t;have Sd:=kc t.names;have Mf:=ke t.op;have Ej:=dh t.op;have De:=Re t.con;have hn2:=Re t.to;have Oh:=Xz t.k;have H8:=Lw t.con;have Jl:=Lw t.to;have key:=j0 t;have k1:g1 t= !(decide (t.op<1)||(decide (19<t.op)||(!Pb t || !I0 t))):=rfl;have k2:g2 t=(decide (t.names.length=0)&&decide ((t.l.length:Int)=Rg t.op)):=by unfold g2;rw[Ac Aa,Ac Aa,Ac Aa]
 have k3:g3 t=decide (t.k.l.length=0):=by unfold g3;simp[h8]
 have k4:g4 t=if Dj t.op=true then Ar t.con else Fg t.con:=rfl;have k5:g5 t=Ar t.to:=by unfold g5;simp[h8]
 generalize Pb t=bn at Lk k1;generalize I0 t=bx at Lm k1;generalize O9 t.names=bl at Sd k2;generalize Rg t.op=pt at Mf k2;generalize Eu t.k=bk at Oh k3;generalize Dj t.op=bh at Ej k4;generalize Ar t.con=v1 at H8 k4;generalize Ar t.to=v2 at Jl k5;generalize Fg t.con=z1 at De k4;generalize Fg t.to=z2 at hn2 k5;generalize Ew t=z at key;generalize g1 t=y1 at k1 key;generalize g2 t=y2 at k2 key;generalize g3 t=y3 at k3 key;generalize g4 t=y4 at k4 key;generalize g5 t=y5 at k5 key;refine Hg j5 fun Q hQ=>?_;simp[Ah,Aq t,h8];refine Ca Lk ?_ (he:=by simp[Ah,Aq t,h8]);cases bn
 . try simp
   exact hQ
 try simp
 refine Ca Lm ?_ (he:=by simp[Ah,Aq t,h8]);cases bx
 . try simp
   exact hQ
 try simp
 refine Wd ?_;by_cases hm:t.names.length=0
 case neg=>
  have H7:¬At t.names=[]:=fun h=>hm (by simpa[At]using h)
  try simp[hm,Hu]
  exact hQ
 have H7:At t.names=[]:=by simpa[At]using hm
 try simp[H7]
 refine Da Mf ?_ (he:=by simp[h8]);by_cases hl:(t.l.length:Int)=pt
 case neg=>
  try simp[hl]
  exact hQ
 try simp[hl]
 by_cases hk:t.k.l.length=0
 case neg=>
  have J0:¬t.k.l=[]:=fun h=>hk (by rw[h]; rfl)
  try simp[J0]
  exact hQ
 have J0:t.k.l=[]:=Ye hk
 try simp[J0]
 refine Ca Ej ?_ (he:=by simp[h8]);cases bh
 . try simp
   refine Ca Ej ?_ (he:=by simp[h8])
   try simp
   refine Ca De ?_ (he:=by simp[Ad,Ap]);cases z1
   . try simp
     exact hQ
   try simp
   refine Ca Jl ?_ (he:=by simp[Ad,Ap]);cases v2
   . try simp
     exact hQ
   try simp
   exact hQ
 try simp
 refine Ca H8 ?_ (he:=by simp[Ad,Ap]);cases v1
 . try simp
   exact hQ
 try simp
 refine Ca Ej ?_ (he:=by simp[h8])
 try simp
 refine Ca Jl ?_ (he:=by simp[Ad,Ap]);cases v2
 . try simp
   exact hQ
 try simp
 exact hQ
def Bce(t:Te)(Ig:¬t.op=10)(Hn:¬t.op=13)(Ka:¬t.op=18)(h6:¬t.op=6)(h8:¬t.op=8):Hc 191 [Ah t] (.bool (Ew t)):=by
 have Lk:=kd t;have Lm:=kg t;have Sd:=kc t.names;have Mf:=ke t.op;have Ej:=dh t.op;have De:=Re t.con;have hn2:=Re t.to;have Oh:=Xz t.k;have H8:=Lw t.con;have Jl:=Lw t.to;have key:=j0 t;have k1:g1 t= !(decide (t.op<1)||(decide (19<t.op)||(!Pb t || !I0 t))):=rfl;have k2:g2 t=(decide (t.names.length=0)&&decide ((t.l.length:Int)=Rg t.op)):=by unfold g2;rw[Ac Ig,Ac Hn,Ac Ka]
 have k3:g3 t=decide (t.k.l.length=0):=by unfold g3;simp[h6]
 have k4:g4 t=if Dj t.op=true then Ar t.con else Fg t.con:=rfl;have k5:g5 t=Fg t.to:=by unfold g5;simp[h8]
 generalize Pb t=bn at Lk k1;generalize I0 t=bx at Lm k1;generalize O9 t.names=bl at Sd k2;generalize Rg t.op=pt at Mf k2;generalize Eu t.k=bk at Oh k3;generalize Dj t.op=bh at Ej k4;generalize Ar t.con=v1 at H8 k4;generalize Ar t.to=v2 at Jl k5;generalize Fg t.con=z1 at De k4;generalize Fg t.to=z2 at hn2 k5;generalize Ew t=z at key;generalize g1 t=y1 at k1 key;generalize g2 t=y2 at k2 key;generalize g3 t=y3 at k3 key;generalize g4 t=y4 at k4 key;generalize g5 t=y5 at k5 key;refine Hg j5 fun Q hQ=>?_;by_cases h1:t.op<1
 . simp[Ah,Aq t,h1];exact hQ
 by_cases h2:19<t.op
 . simp[Ah,Aq t,h1,h2];exact hQ
 simp[Ah,Aq t,h1,h2];refine Ca Lk ?_ (he:=by simp[Ah,Aq t]);cases bn
 . try simp
   exact hQ
 try simp
 refine Ca Lm ?_ (he:=by simp[Ah,Aq t]);cases bx
 . try simp
   exact hQ
 try simp[Ig,Hn,Ka]
 refine Wd ?_;by_cases hm:t.names.length=0
 case neg=>
  have H7:¬At t.names=[]:=fun h=>hm (by simpa[At]using h)
  try simp[hm,Hu]
  exact hQ
 have H7:At t.names=[]:=by simpa[At]using hm
 try simp[H7]
 refine Da Mf ?_ (he:=Ab);by_cases hl:(t.l.length:Int)=pt
 case neg=>
  try simp[hl]
  exact hQ
 try simp[hl,h6]
 by_cases hk:t.k.l.length=0
 case neg=>
  have J0:¬t.k.l=[]:=fun h=>hk (by rw[h]; rfl)
  try simp[J0]
  exact hQ
 have J0:t.k.l=[]:=Ye hk
 try simp[J0]
 refine Ca Ej ?_ (he:=Ab);cases bh
 . try simp
   refine Ca Ej ?_ (he:=Ab)
   try simp
   refine Ca De ?_ (he:=by simp[Ad,Ap]);cases z1
   . try simp
     exact hQ
   try simp[h8]
   refine Ca hn2 ?_ (he:=by simp[Ad,Ap])
   try simp
   exact hQ
 try simp
 refine Ca H8 ?_ (he:=by simp[Ad,Ap]);cases v1
 . try simp
   exact hQ
 try simp
 refine Ca Ej ?_ (he:=Ab)
 try simp[h8]
 refine Ca hn2 ?_ (he:=by simp[Ad,Ap])
 try simp
 exact hQ
def Aya(t:Te):Hc 191 [Ah t] (.bool (Ew t)):=by
 by_cases Ig:t.op=10
 . exact Bb9 t Ig
 by_cases Hn:t.op=13
 . exact Bca t Hn
 by_cases Ka:t.op=18
 . exact Bcb t Ka
 by_cases h6:t.op=6
 . exact Bcc t h6
 by_cases h8:t.op=8
 . exact Bcd t h8
 exact Bce t Ig Hn Ka h6 h8
inductive Zt (d:Int):List Te->Int->Int->Prop
 |nil (m:Int):Zt d [] m m
 |stop {t:Te} {l:List Te} (m:Int) (h:m<0):Zt d (t::l) m m
 |step {t:Te} {l:List Te} {r:Int} (m q:Int) (h0:0<=m) (h:Hc 111 [Ah t,.int .i64 m,.int .i64 d] (.int .i64 q)) (h1:q<=20000) (hl:Zt d l q r):Zt d (t::l) m r
def Blu(t:Te)(left d:Int)(h:left<1\/d<1\/Ew t=false):Hc 111 [Ah t,.int .i64 left,.int .i64 d] (.int .i64 (-1)):=by
 have Ke:=Aya t;generalize Ew t=nd at Ke h;refine Hg Aw1 fun Q hQ=>?_;by_cases h1:left<1
 . simp[Ah,Aq t,h1];exact hQ
 by_cases h2:d<1
 . simp[Ah,Aq t,h1,h2];exact hQ
 have h3:nd=false:=by
  rcases h with h|h|h
  . exact absurd h h1
  . exact absurd h h2
  exact h
 subst h3;simp[Ah,Aq t,h1,h2];refine Ca Ke ?_;simp;exact hQ
def Blv(t:Te)(left d:Int)(h1:0<left)(h1b:left<=20000)(h2:1<=d)(h2b:d<=400)(h3:Ew t=true)(r:Int)(hr:Zt (d-1) t.l (left-Lt t) r):
 Hc 111 [Ah t,.int .i64 left,.int .i64 d] (.int .i64 r):=by
 have Ke:=Aya t;rw[h3]at Ke;have Ej:=dh t.op;have a1:¬left<1:=Aa;have a2:¬d<1:=Aa;have Ik:=fun h=>tv h3 h;have E7:=fun h=>o8 h3 h;have n0eq:Lt t=1+(if Dj t.op=true then(Al t.con:Int)else 0)+(if t.op=8 then(Al t.to:Int)else 0):=rfl;have bc:=Adp h3;generalize Lt t=n0 at hr n0eq bc;have hw0:=Au (n:=d-1) Aa Aa;generalize hd1:d-1=d1 at hr hw0;refine Hf Aw1 fun Am Q hQ=>?_;have hf:=Zn (c:=t) (by simpa[Bl,Ah,AV.fits]using Am.1);have B5:t.l.length<=1073741824:=by simpa[A1]using hf.2.2.2.2.1
 clear Am hf;simp[-Az,Ah,Aq t];rw[Az];simp[-Az];rw[Az,Az];simp[a1,a2, -Az];refine Ca Ke ?_;clear Ke;simp[-Az];rw[Az];simp[-Az,Au (n:=left-1) Aa Aa];refine Gc (fun f=>f 1= .int .i64 (left-1-(if Dj t.op=true then(Al t.con:Int)else 0))) (fun Q' hn hr=>?_) (fun f hI=>?_)
 . simp;refine Ca Ej ?_;cases hh:Dj t.op
   . simp;refine hn _ Ab ?_;simp[hh]
   have:=Ik hh;simp;refine Ca (dg t.con Aa) ?_;simp[Au (n:=left-1-(Al t.con:Int)) Aa Aa];refine hn _ Ab ?_;simp[hh]
 obtain⟨m1,Sf⟩:∃m1:Int,m1=left-1-(if Dj t.op=true then(Al t.con:Int)else 0):=⟨_,rfl⟩;rw[<- Sf]at hI;have e1:¬t.op=8->m1=left-n0:=fun h=>by rw[n0eq,Ac h]; omega
 have e2:t.op=8->m1-(Al t.to:Int)=left-n0:=fun h=>by rw[n0eq,Ae h]; omega
 clear n0eq Sf;simp[-Az,hI];refine Gc (fun f=>f 1= .int .i64 (left-n0)) (fun Q' hn hr=>?_) (fun f hI=>?_)
 . cases hh:decide (t.op=8)
   . have O7:¬t.op=8:=by simpa using hh
     simp[hh];refine hn _ Ab ?_;simp[e1 O7]
   have O7:t.op=8:=by simpa using hh
   have:=E7 O7;have e3:=e2 O7;simp[hh];refine Ca (dg t.to Aa) ?_;simp[Au (n:=m1-(Al t.to:Int)) Aa Aa];refine hn _ Ab ?_;simp[e3]
 clear Ik E7;simp[hI];refine WL [] (fun n f h G=>∃(k:Nat) (m:Int),k+n=t.l.length/\f 7= .int .i64 k/\f 1= .int .i64 m/\m<=20000/\Zt d1 (t.l.drop k) m r) (t.l.length) Ab ⟨0,left-n0,Ab,rfl,rfl,Aa,by simpa using hr⟩ ?_;rintro n f h G ⟨k,m,hk,h7,h1,hm2,hM⟩ Q2 Aj;simp[h7,h1];by_cases Af:k<t.l.length
 . have hd:=Ct Af;rw[hd]at hM
   cases hM with
   |stop _ hneg=>
    have hneg':¬0<=r:=Aa;simp[Af,hneg'];refine Aj (Lx ?_);simp
    exact hQ
   |step _ q h0 hc hq hl=>
    simp[Af,h0,hw0,hd1];refine Ca hc ?_;simp[Au (n:=(k:Int)+1) Aa Aa];refine Aj (Ln h ?_);exact⟨k+1,q,Aa,Ab,Ab,hq,hl⟩
 have hd:t.l.drop k=[]:=Cm Aa;rw[hd]at hM;cases hM;simp[Af];refine Aj (Lx ?_);simp;exact hQ
def CtK(t:Te)(left d q:Int):Prop:=q<=20000/\-200000<=q/\(0<=q↔Ds d.toNat t/\wT t<=left)/\(0<=q->q=left-wT t)
def Agx(d:Int):∀(l:Na) (m:Int),(∀ t∈l,∀left:Int, -100000<=left->left<=20000->∃q,Hc 111 [Ah t,.int .i64 left,.int .i64 d] (.int .i64 q)/\CtK t left d q)->-100000<=m->m<=20000->
 ∃r,Zt d l m r/\r<=20000/\-200000<=r/\(0<=r↔(∀ x∈l,Ds d.toNat x)/\Hi l<=m)/\(0<=r->r=m-Hi l)
 | [],m,_,h1,h2=>⟨m,.nil m,h2,Aa,by simp[Hi],by simp[Hi]⟩
 |t::l,m,hl,h1,h2=>by
  have hw:=pj l;have hp:=Wg t;by_cases h0:0<=m
  case neg=>exact⟨m,.stop m Aa,h2,Aa,⟨fun h=>absurd h h0,fun h=>by rw[Hi]at h;omega⟩,fun h=>absurd h h0⟩
  obtain⟨q,hq,k1,k2,k3,k4⟩:=hl t Ab m h1 h2;by_cases hq0:0<=q
  . obtain⟨r,c1,c2,c3,c4,c5⟩:=Agx d l q (fun x hx=>hl x (by simp[hx])) Aa k1;have e:=k4 hq0;refine⟨r,.step m q h0 hq k1 c1,c2,c3,?_,fun h=>by have:=c5 h;rw[Hi]; omega⟩;rw[c4,Hi];constructor
    . rintro⟨a,b⟩;refine⟨fun x hx=>?_,Aa⟩;rcases List.mem_cons.1 hx with rfl|hx
      . exact(k3.1 hq0).1
      exact a x hx
    rintro⟨a,b⟩;exact⟨fun x hx=>a x (by simp[hx]),Aa⟩
  refine⟨q,.step m q h0 hq k1 ?_,k1,k2,⟨fun h=>absurd h hq0,fun h=>?_⟩,fun h=>absurd h hq0⟩
  . cases l with
    |nil=>exact .nil q
    |cons y l=>exact .stop q Aa
  rw[Hi]at h;exact k3.2 ⟨h.1 t Ab,Aa⟩
def Ael(t:Te)(left d:Int)(h1: -100000<=left)(h2:left<=20000)(h3: -1000<=d)(h4:d<=400):∃q,Hc 111 [Ah t,.int .i64 left,.int .i64 d] (.int .i64 q)/\CtK t left d q:=by
 by_cases hf:left<1\/d<1\/Ew t=false
 . refine⟨-1,Blu t left d hf,Aa,Aa,⟨fun h=>Aa,fun h=>?_⟩,fun h=>Aa⟩;have hp:=Wg t;obtain⟨hk,hle⟩:=h;rcases hf with hf|hf|hf
   . omega
   . rw[show d.toNat=0 by omega]at hk;exact hk.elim
   match hh:d.toNat with
   |0=>rw[hh]at hk;exact hk.elim
   |h+1=>rw[hh]at hk;rw[hk.1]at hf;cases hf
 simp only[Jo]at hf;obtain⟨f1,f2,f3⟩:=hf;have f3:Ew t=true:=by simpa using f3
 have hn:=Adp f3;have hw:=ph t;obtain⟨r,c1,c2,c3,c4,c5⟩:=Agx (d-1) t.l (left-Lt t) (fun x hx left' g1 g2=>Ael x left' (d-1) g1 g2 Aa Aa) Aa Aa;refine⟨r,Blv t left d Aa h2 Aa h4 f3 r c1,c2,c3,?_,fun h=>by have:=c5 h;omega⟩;rw[c4,show d.toNat=(d-1).toNat+1 by omega,Ds];constructor
 . rintro⟨a,b⟩; exact⟨⟨f3,a⟩,Aa⟩
 rintro⟨⟨_,a⟩,b⟩; exact⟨a,Aa⟩
termination_by SizeOf.sizeOf t
decreasing_by exact Te.lt_l ‹_›
def Ax6(t:Te):∃b,Hc 41 [Ah t] (.bool b)/\(b=true↔Ds 400 t/\wT t<=20000):=by
 obtain⟨q,hq,_,_,k3,_⟩:=Ael t 20000 400 Aa Aa Aa Aa;refine⟨decide (0<=q),?_,by rw[Aw]; exact k3⟩;clear k3;refine Hg Bgz fun Q hQ=>?_;simp[Ah,Aq t];refine Ca hq ?_;simp;exact hQ
def Ax4(t:Te):∃n:Int,Hc 58 [Ah t] (.int .i64 n)/\0<=n/\n<=1000000:=by
 obtain⟨q,hq,k1,k2,_,_⟩:=Ael t 20000 400 Aa Aa Aa Aa;refine⟨20000-q,?_,Aa,Aa⟩;refine Hg Bgw fun Q hQ=>?_;simp[Ah,Aq t];refine Ca hq ?_;simp[Au (n:=20000-q) Aa Aa];exact hQ
end
mutual
def I8(g:Cn->Int->Cn):Sm->Int->Sm
 | .mk o n s c k ks more names l,d=>.mk o n s (if Dr o=true then g c d else A3) k ks more names (Mi g o ks more l 0 d)
def Mi(g:Cn->Int->Cn)(o:Int)(ks more:List Kd):List Sm->Nat->Int->List Sm
 | [],_,_=>[]
 |x::xs,i,d=>I8 g x (d+E6 o ks more i)::Mi g o ks more xs (i+1) d
end
mutual
def Ae5(f:Cn->Int->Cn×Int)(g:Cn->Int->Cn)(hf:∀c d r,Ar c=true->0<=d->d<=1000000->f c d=(r,0)->r=g c d):∀(s:Sm) (d:Int) (h:Nat) (a:Sm),Lb h s->0<=d->d+2000*h<=1000000->Gt f s d=(a,0)->a=I8 g s d
 | .mk o n s c k ks more names l,d,0,a,ht,_,_,_=>ht.elim
 | .mk o n s c k ks more names l,d,h+1,a,ht,h0,hd,hr=>by
   have D8:∀i,0<=E6 o ks more i/\E6 o ks more i<=2000:=Z5 ht.1;rw[Gt]at hr;split at hr
   . rename_i hc;exact absurd (A4 Prod.snd hr) hc.2
   rename_i Q1;split at hr
   . rename_i hc;exact absurd (A4 Prod.snd hr) hc
   rename_i Of;have hl0:(Gu f o ks more l 0 d).2=0:=by simpa using Of
   have ha:=A4 Prod.fst hr;simp only at ha;rw[<- ha,I8,Azl f g hf l o ks more 0 d h (fun x hx=>ht.2 x hx) D8 h0 Aa hl0];congr 1;split
   . rename_i ho
     have he:(f c d).2=0:=by
      cases hz:decide ((f c d).2=0)
      . exact absurd ⟨ho,by simpa using hz⟩ Q1
      simpa using hz
     exact hf c d _ (co ht.1 ho) h0 Aa (by rw[<- he])
   rfl
def Azl(f:Cn->Int->Cn×Int)(g:Cn->Int->Cn)(hf:∀c d r,Ar c=true->0<=d->d<=1000000->f c d=(r,0)->r=g c d):∀(l:List Sm) (o:Int) (ks more:List Kd) (i:Nat) (d:Int) (h:Nat),(∀ x∈l,Lb h x)->(∀ i,0<=E6 o ks more i/\E6 o ks more i<=2000)->0<=d->d+2000+2000*h<=1000000->
 (Gu f o ks more l i d).2=0->(Gu f o ks more l i d).1=Mi g o ks more l i d
 | [],_,_,_,_,_,_,_,_,_,_,_=>rfl
 |x::xs,o,ks,more,i,d,h,ht,hb,h0,hd,hr=>by
  have h1:=hb i;rw[Gu]at hr ⊢;split at hr
  . rename_i hc;exact absurd hr hc
  rename_i hc;rw[Ac hc,Mi];have he:(Gt f x (d+E6 o ks more i)).2=0:=by simpa using hc
  rw[<- Ae5 f g hf x (d+E6 o ks more i) h _ (ht x Ab) Aa Aa (Prod.ext rfl he),Azl f g hf xs o ks more (i+1) d h (fun y hy=>ht y (by simp[hy])) hb h0 hd hr]
end
mutual
def Avy(g:Cn->Int->Cn)(z:Int):∀(s:Sm) (d:Int),I8 g s (d+z)=I8 (fun c k=>g c (k+z)) s d
 | .mk o n s c k ks more names l,d=>by
   rw[I8,I8,Av0 g z o ks more l 0 d]
def Av0(g:Cn->Int->Cn)(z:Int)(o:Int)(ks more:List Kd):∀(l:List Sm) (i:Nat) (d:Int),Mi g o ks more l i (d+z)=Mi (fun c k=>g c (k+z)) o ks more l i d
 | [],_,_=>rfl
 |x::xs,i,d=>by
  rw[Mi,Mi,Av0 g z o ks more xs (i+1) d,show d+z+E6 o ks more i=d+E6 o ks more i+z by omega,Avy g z x]
end
mutual
def Avz(g g':Cn->Int->Cn)(hg:∀c d,Ar c=true->0<=d->d<=1000000->g c d=g' c d):∀(s:Sm) (d:Int) (h:Nat),Lb h s->0<=d->d+2000*h<=1000000->I8 g s d=I8 g' s d
 | .mk o n s c k ks more names l,d,0,ht,_,_=>ht.elim
 | .mk o n s c k ks more names l,d,h+1,ht,h0,hd=>by
   rw[I8,I8,Av1 g g' hg l o ks more 0 d h (fun x hx=>ht.2 x hx) (Z5 ht.1) h0 Aa];congr 1;split
   . rename_i ho;exact hg c d (co ht.1 ho) h0 Aa
   rfl
def Av1(g g':Cn->Int->Cn)(hg:∀c d,Ar c=true->0<=d->d<=1000000->g c d=g' c d):∀(l:List Sm) (o:Int) (ks more:List Kd) (i:Nat) (d:Int) (h:Nat),(∀ x∈l,Lb h x)->(∀ i,0<=E6 o ks more i/\E6 o ks more i<=2000)->0<=d->d+2000+2000*h<=1000000->Mi g o ks more l i d=Mi g' o ks more l i d
 | [],_,_,_,_,_,_,_,_,_,_=>rfl
 |x::xs,o,ks,more,i,d,h,ht,hb,h0,hd=>by
  have h1:=hb i;rw[Mi,Mi,Avz g g' hg x _ h (ht x Ab) Aa Aa,Av1 g g' hg xs o ks more (i+1) d h (fun y hy=>ht y (by simp[hy])) hb h0 hd]
end
def K7(ks more:List Kd)(i:Nat):Int:=ks.length+(if i=1 then(more.length:Int)else 0)
mutual
def Gg(g:Cn->Int->Cn):Sm->Int->Sm
 | .mk o n s c k ks more names l,d=>.mk o n s (if Dr o=true then g c d else c) k ks more names (Nx g ks more l 0 d)
def Nx(g:Cn->Int->Cn)(ks more:List Kd):List Sm->Nat->Int->List Sm
 | [],_,_=>[]
 |x::xs,i,d=>Gg g x (IntKind.i64.wrap (d+K7 ks more i))::Nx g ks more xs (i+1) d
end
def Bb8(h:Fg c=true):c=A3:=by
 simp only[Fg,Bb,Aw]at h;cases c with |mk o n s k ns l=>
 cases k with |mk kl=>
 simp only[Cn.op,Cn.n,Cn.s,Cn.k,Cn.names,Cn.l,Kd.l]at h;obtain⟨rfl,rfl,rfl,rfl,rfl,rfl⟩:=h;rfl
def Adu{s:Sm}(h:Cp s=true)(ho:¬Dr s.op=true):s.con=A3:=by
 rw[Adt]at h;simp only[Bb]at h;have h2:=h.2.1;rw[q2,Ac ho]at h2;exact Bb8 h2
def Av7{s:Sm}(h:Cp s=true){i:Nat}(hi:i<s.l.length):K7 s.ks s.more i=E6 s.op s.ks s.more i:=by
 have Br:=U2 h;rw[Adt]at h;simp only[Bb]at h;have h5:=h.2.2.2.2.1;simp only[q5,Bb,Mn,li,Bj,Agu,Aw,ef]at h5;unfold K7 E6;by_cases h4:s.op=4
 . have hl:=Br.2.1 h4;rw[Ae h4,Ac Aa]; omega
 rw[Ac h4];by_cases h6:s.op=6
 . have hl:=Br.2.2.1 h6;rw[Ae h6];by_cases h0:i=0
   . rw[Ae h0,Ac Aa]; omega
   rw[Ac h0,Ae Aa]
 rw[Ac h6]
 have e1:s.ks.length=0:=by
  have:=h5.2.2.1;omega
 have e2:s.more.length=0:=by
  have:=h5.2.2.2;omega
 rw[e1,e2]; simp
mutual
def Aff(g g':Cn->Int->Cn)(hg:∀c d,Ar c=true->0<=d->d<=1000000->g c d=g' c d):∀(s:Sm) (d:Int) (h:Nat),Lb h s->0<=d->d+2000*h<=1000000->Gg g s d=I8 g' s d
 | .mk o n s c k ks more names l,d,0,ht,_,_=>ht.elim
 | .mk o n s c k ks more names l,d,h+1,ht,h0,hd=>by
   have hz:=Adu ht.1;have hlen:=fun i hi=>Av7 (i:=i) ht.1 hi;simp only[Sm.op,Sm.con,Sm.ks,Sm.more,Sm.l]at hz hlen;rw[Gg,I8,Az5 g g' hg l o ks more 0 d h (fun x hx=>ht.2 x hx) (Z5 ht.1) (fun i _ hi=>hlen i Aa) h0 Aa];congr 1;split
   . rename_i ho;exact hg c d (co ht.1 ho) h0 Aa
   rename_i ho;exact hz ho
def Az5(g g':Cn->Int->Cn)(hg:∀c d,Ar c=true->0<=d->d<=1000000->g c d=g' c d):∀(l:List Sm) (o:Int) (ks more:List Kd) (i:Nat) (d:Int) (h:Nat),(∀ x∈l,Lb h x)->(∀ i,0<=E6 o ks more i/\E6 o ks more i<=2000)->(∀ j,i<=j->j<i+l.length->K7 ks more j=E6 o ks more j)->0<=d->d+2000+2000*h<=1000000->Nx g ks more l i d=Mi g' o ks more l i d
 | [],_,_,_,_,_,_,_,_,_,_,_=>rfl
 |x::xs,o,ks,more,i,d,h,ht,hb,hlen,h0,hd=>by
  have h1:=hb i
  rw[Nx,Mi,hlen i (Bm _) Ab,Au Aa Aa,Aff g g' hg x _ h (ht x Ab) Aa Aa,
   Az5 g g' hg xs o ks more (i+1) d h (fun y hy=>ht y (by simp[hy])) hb (fun j h1 h2=>hlen j Aa (by simp;omega)) h0 hd]
end
mutual
def Auh(a b:Int)(ha:0<=a):∀(c:Cn) (f:Int),Fe (Fe c a f) b f=Fe c (a+b) f
 | .mk o n s k ns l,f=>by
   rw[Fe,Fe];by_cases ho:o=1
   . rw[Ae ho,Ae ho];by_cases h:f<=n
     . rw[Ae h,Ae h,Acy,Ae Aa]; congr 1;omega
     rw[Ac h,Ac h,Fe,Ae ho,Ac h]
   rw[Ac ho,Ac ho,Fe,Ac ho,Auj a b ha]
def Auj(a b:Int)(ha:0<=a):∀(l:List Cn) (f:Int),Hs (Hs l a f) b f=Hs l (a+b) f
 | [],_=>rfl
 |c::cs,f=>by rw[Hs,Hs,Hs,Auh a b ha c f,Auj a b ha cs f]
end
def Ry(m:Nat)(l:List Cn):List Cn:=(List.range m).map (fun i:Nat=>Ch (i:Int))++l.map (fun x=>Fe x m 0)
def A5h{m:Nat}{l:Ax}{i:Nat}(h:i<m):(Ry m l)[i]? =some (Ch (i:Int)):=by
 rw[Ry,D5 (by simpa using h)]; simp[h]
def A5g{m:Nat}{l:Ax}{i:Nat}(h:m<=i):(Ry m l)[i]? =(l[i-m]?).map fun x=>Fe x m 0:=by
 rw[Ry,Hj (by simpa using h)]; simp
mutual
def A2i(l:List Cn)(m:Nat):∀(c:Cn) (d:Int),C0 c=true->0<=d->F5 (Ry m l) (Fe c m (d+(m+l.length))) d=F5 l c (d+m)
 | .mk o n s k ns cl,d,hf,h0=>by
   have hn:=hf;rw[Mu,Bb]at hn;by_cases ho:o=1
   . obtain⟨Zd,g1,g2⟩:=V3 hn.1 ho;simp only[Cn.n]at g1 g2 Zd;rw[Zd,Acy];have D8:(Ry m l).length=m+l.length:=by simp[Ry]
     by_cases h1:d+(m+l.length)<=n
     . rw[Ae h1];unfold Ch;rw[F5,F5,Ae rfl,Ae rfl,Ac Aa,Ac Aa,Im (by rw[D8]; omega),Im Aa,D8];simp only;congr 1;omega
     rw[Ac h1];unfold Ch;rw[F5,F5,Ae rfl,Ae rfl];by_cases h2:n<d
     . rw[Ae h2,Ae Aa]
     rw[Ac h2];by_cases h3:n<d+m
     . rw[Ae h3,A5h Aa];simp only;rw[Acy,Ae Aa];have e:(((n-d).toNat:Nat):Int)+d=n:=Aa;rw[e]; rfl
     rw[Ac h3,A5g Aa,show(n-d).toNat-m=(n-(d+m)).toNat by omega];have Af:(n-(d+m)).toNat<l.length:=Aa;rw[Il Af];simp only[Tx];rw[Auh m d Aa,show(m:Int)+d=d+m by omega]
   rw[Fe,Ac ho,F5,Ac ho,F5,Ac ho];have e:=A2j l m cl (if Bw o=true then d+1 else d) hn.2 (by split<;>omega);congr 1;have e1:(if Bw o=true then d+(m+l.length)+1 else d+(m+l.length):Int)=(if Bw o=true then d+1 else d)+(m+l.length):=by split<;>omega
   have e2:(if Bw o=true then d+m+1 else d+m:Int)=(if Bw o=true then d+1 else d)+m:=by split<;>omega
   rw[e1,e2,e]
def A2j(l:List Cn)(m:Nat):∀(cl:List Cn) (d:Int),cl.all C0=true->0<=d->Mg (Ry m l) (Hs cl m (d+(m+l.length))) d=Mg l cl (d+m)
 | [],_,_,_=>rfl
 |c::cs,d,hf,h0=>by
  rw[Er,Bb]at hf;rw[Hs,Mg,Mg,A2i l m c d hf.1 h0,A2j l m cs d hf.2 h0]
end
mutual
def NS:Sm->Sm->Prop
 | .mk o n s c k ks more names l,r=>∃c' l',r= .mk o n s c' k ks more names l'/\(if Dr o=true then ∃m,Fu [c] 10000 [c'] m else c'=c)/\Wo l l'
def Wo:List Sm->List Sm->Prop
 | [],l'=>l'=[]
 |x::xs,l'=>∃y ys,l'=y::ys/\NS x y/\Wo xs ys
end
mutual
def Ahf:∀(s r:Sm) (d:Int) (h:Nat),Lb h s->NS s r->Gt (fun c _=>Nd c) s d=(r,0)
 | .mk o n s c k ks more names l,r,d,0,ht,_=>ht.elim
 | .mk o n s c k ks more names l,r,d,h+1,ht,hr=>by
   have hz:=Adu ht.1;simp only[Sm.op,Sm.con]at hz;rw[NS]at hr;obtain⟨c',l',rfl,hc,hl⟩:=hr;have e:=Ahh l l' o ks more 0 d h (fun x hx=>ht.2 x hx) hl;by_cases ho:Dr o=true
   . rw[Ae ho]at hc;obtain⟨m,hm⟩:=hc;have e2:=(Adq (co ht.1 ho)).2 c' m hm;simp only[Sm.con]at e2;rw[Gt];simp only[e,e2,ho];simp
   rw[Ac ho]at hc;rw[Gt];simp only[e,ho,hc,hz ho];simp
def Ahh:∀(l r:List Sm) (o:Int) (ks more:List Kd) (i:Nat) (d:Int) (h:Nat),(∀ x∈l,Lb h x)->Wo l r->Gu (fun c _=>Nd c) o ks more l i d=(r,0)
 | [],r,_,_,_,_,_,_,_,hr=>by rw[Wo]at hr;rw[hr]; rfl
 |x::xs,r,o,ks,more,i,d,h,ht,hr=>by
  rw[Wo]at hr;obtain⟨y,ys,rfl,h1,h2⟩:=hr;have e1:=Ahf x y (d+E6 o ks more i) h (ht x Ab) h1;have e2:=Ahh xs ys o ks more (i+1) d h (fun z hz=>ht z (by simp[hz])) h2;rw[Gu];simp only[e1,e2];simp
end
