/- LiftApplies answers true for every two modules, list of constructors and term: what lift.Apply returns is right by the reference. Conditions: the arguments are together of bulk at most 1048576. -/
import Derived.ChangeArms
import Derived.Test.YtndkeknbfbdeeaaGreatDoorRows
import Derived.Test.YtndkeknbfbdeeaaGreatDoorCards
import Derived.Test.YtndkeknbfbdeeaaGreatDoorTie
import Derived.OpenShut
import Derived.WideKeyArgs
import Derived.Shelf.Vars
import Derived.Test.YtndkeknbfbdeeaaGreatDoorG27
set_option linter.all false
set_option maxHeartbeats 4000000
set_option maxRecDepth 100000
namespace Go.Proofs.YtndkeknbfbdeeaaGreatDoor
open Go
variable {F:Addr->Prop}{cs:Fm}{ps:List MemPlace}{fuel:Nat}{α:Type}{t:TypeId}{v:Value}
section
open Rows (uptoBulk uptoBulkAll)
def FW(w:World):Addr->Prop:=fun a=>a.spot=none/\(w.cell? a).isSome=true
@[irreducible] def L9:Nat:=1048576
def fp:L9<=1048576:=by unfold L9;exact Bm _
def O4:Gh:=⟨fun _=>none,fun _=>none⟩
def Avl{α:Type}{P:Nat->α->Prop} :∀(n:Nat),(∀ i,i<n->∃x,P i x)->∃l:List α,l.length=n/\∀(i:Nat) (h:i<l.length),P i l[i]
 |0,_=>⟨[],rfl,fun i h=>absurd h (Jr i)⟩
 |n+1,h=>by
  obtain⟨l,h1,h2⟩:=Avl n fun i hi=>h i Aa;obtain⟨x,hx⟩:=h n Aa;refine⟨l++[x],by simp[h1],fun i hi=>?_⟩;rw[List.getElem_append];split
  . exact h2 i _
  have:i=n:=by simp at hi;omega
  subst this;simpa using hx
def Avu{α β:Type}{f:α->Option β} :∀{l:List α} {r:List β},l.mapM f=some r->r.length=l.length/\∀(i:Nat) (x:α),l[i]? =some x->∃y,f x=some y/\r[i]? =some y
 | [],r,h=>by simp at h;subst h;simp
 |x::l,r,h=>by
  simp only[yk,Option.bind_eq_bind,Option.pure_def,lr,Ay]at h;obtain⟨y,h1,ys,h2,rfl⟩:=h;obtain⟨e1,e2⟩:=Avu h2;refine⟨by simp[e1],fun i z hz=>?_⟩
  cases i with
  |zero=>simp at hz;subst hz;exact⟨y,h1,rfl⟩
  |succ i=>simp at hz;simpa using e2 i z hz
section
variable {H:Type} {enc:TypeId×Value->H} {P:Program} {w:World} {base:Nat} {spare:Nat->Bool} {held:Bool}
def Aio(d:DataW H):1<=uptoBulk d:=by
 cases d with
 |lit l=>cases l<;>simp[uptoBulk]
 |nil=>simp[uptoBulk]
 |ptr d=>simp[uptoBulk]
 |slice elems spare=>simp[uptoBulk]
 |agg parts=>simp[uptoBulk]
 |iface t d=>simp[uptoBulk]
 |map entries=>simp[uptoBulk]
 |held h=>simp[uptoBulk]
def Ain{d:DataW H}{l:List (DataW H)}(h:d∈l):uptoBulk d<=uptoBulkAll l:=by
 induction l with
 |nil=>cases h
 |cons x r ih=>
  simp only[uptoBulkAll]
  cases List.mem_cons.1 h with
  |inl e=>subst e;omega
  |inr e=>have:=ih e;omega
def A5f(l:List (DataW H)):l.length<=uptoBulkAll l:=by
 induction l with
 |nil=>simp[uptoBulkAll]
 |cons x r ih=>have:=Aio x;simp only[uptoBulkAll,Gq]; omega
def jp{k:IntKind}{d:DataW H}(ht:P.underlying t=some (.int k))(h:DataW.trod enc P w base spare held fuel t cs=some (d,ps)):
 ∃n,cs=[.int k n]/\R (FW w) O4 w (.int k n) (.int k n):=by
 cases fuel with
 |zero=>simp[DataW.trod]at h
 |succ n=>
  unfold DataW.trod at h;rw[ht]at h;split at h<;>simp_all
  simp only[R];refine⟨trivial,?_⟩;have:=h.1.2;simp only[Lit.wf,Bb,Aw]at this;exact this
def xg{d:DataW H}(ht:P.underlying t=some .string)(h:DataW.trod enc P w base spare held fuel t cs=some (d,ps))(hb:uptoBulk d<=L9):
 ∃(s:Bu) (v:Value),cs=[v]/\R (FW w) O4 w (.str s) v:=by
 cases fuel with
 |zero=>simp[DataW.trod]at h
 |succ n=>
  unfold DataW.trod at h;rw[ht]at h;split at h<;>simp_all
  rename_i s;obtain⟨_,rfl,_⟩:=h;refine⟨s.data.toList,?_⟩;simp only[R];refine⟨Ab,?_⟩;simp only[uptoBulk,Ou]at hb;have:=fp;simp only[A1,Ou]; omega
def Aho{α:Type}{F:Addr->Prop}{g:Gh}(f:α->Ao){k:Nat}(hlen:∀x,(f x).length=k)(Ih:∀x,(f x).all AV.isCell=true){B:Nat} :∀(l:List α) (off:Nat),
 (∀ (i:Nat) (h:i<l.length),∃cs,RL F g w (f l[i]) cs/\∀(j:Nat) (v:Value),cs[j]? =some v->w.cell? ⟨B,off+i*k+j,none⟩=some v/\F ⟨B,off+i*k+j,none⟩)->RE F g w B off k (l.map f)
 | [],_,_=>by simp[RE]
 |x::l,off,h=>by
  simp only[F8,RE];refine⟨hlen x,?_,Aho f hlen Ih l (off+k) fun i hi=>?_⟩
  . obtain⟨cs,h1,h2⟩:=h 0 Ab;exact Aai h1 (Ih x) (by simpa using h2)
  obtain⟨cs,h1,h2⟩:=h (i+1) (by simp;omega);refine⟨cs,by simpa using h1,fun j v hv=>?_⟩;have:=h2 j v hv;rwa [show off+(i+1)*k+j=off+k+i*k+j by rw[Pr]; omega]at this
def dx{e:TypeId}{k:Nat}(f:α->Ao)(hlen:∀x,(f x).length=k)(Ih:∀x,(f x).all AV.isCell=true)(ht:P.underlying t=some (.slice e))(hk:P.cellsOf e=k)(h0:0<k){Good:α->DataW H->Prop}{d:DataW H}
 (h:DataW.trod enc P w base spare held fuel t cs=some (d,ps)) (hb:uptoBulk d<=L9) (A6:∀n,n<fuel->∀cs' d' p',DataW.trod enc P w base spare held n e cs'=some (d',p')->uptoBulk d'<=L9->∃x,RL (FW w) O4 w (f x) cs'/\Good x d'):
 ∃(v:Value) (l:List α),cs=[v]/\R (FW w) O4 w (.sl .none (l.map f)) v/\∃ds,l.length=ds.length/\uptoBulkAll ds<uptoBulk d/\∀(i:Nat) (hi:i<l.length) (Fa:i<ds.length),Good l[i] ds[i]:=by
 rcases DataW.trod_slice ht h with⟨rfl,hx⟩|⟨a,len,cap,elems,rest,n,rfl,rfl,hx,au,hl,_,Uj,Lj,_,_⟩
 . refine⟨_,[],rfl,?_,[],rfl,?_,fun i hi=>absurd hi (Jr i)⟩
   . simp[R]
   have:=Aio d;simp only[uptoBulkAll]; omega
 cases hx;simp only[uptoBulk]at hb;have hlen0:=A5f (elems.map (·.1));simp only[Qo]at hlen0
 have key:∀i,i<len->∃x:α,(∃ cs',RL (FW w) O4 w (f x) cs'/\∀(j:Nat) (v:Value),cs'[j]? =some v->w.cell? ((a.add (i*k)).add j)=some v)/\∃y,elems[i]? =some y/\Good x y.1:=by
  intro i hi;have hg:=Lj i hi;rw[hk]at hg;have hy:elems[i]? =some elems[i]:=Il Aa;rw[hy,lr]at hg;obtain⟨cs',c1,c2⟩:=hg
  have hbi:uptoBulk elems[i].1<=L9:=by
   have:=Ain (d:=elems[i].1) (l:=elems.map (·.1)) (List.mem_map.2 ⟨_,Cy _,rfl⟩);omega
  obtain⟨x,x1,x2⟩:=A6 n Aa cs' elems[i].1 elems[i].2 (by rw[c2]) hbi;refine⟨x,⟨cs',x1,fun j v hv=>?_⟩,elems[i],hy,x2⟩;unfold World.cells? at c1;rw[Ae (by unfold Addr.add;split<;>exact au)]at c1;obtain⟨e1,e2⟩:=Avu c1
  have hj:j<k:=by
   have:=(List.getElem?_eq_some_iff.1 hv).1;simp at e1;omega
  obtain⟨y,y1,y2⟩:=e2 j j (by simp[hj]);rw[hv]at y2;cases y2;exact y1
 obtain⟨l,l1,l2⟩:=Avl len key;refine⟨_,l,rfl,?_,elems.map (·.1),by simp[l1,Uj],by simp only[uptoBulk]; omega,fun i hi Fa=>?_⟩
 . simp only[R,Qo,l1];refine⟨by have:=fp;simp only[A1]; omega,.inr ?_⟩;obtain⟨B,off,sp⟩:=a
   have Zb:l.map f=[]\/sp=none:=by
    cases l with
    |nil=>exact .inl rfl
    |cons x l=>
     right
     obtain⟨⟨cs',c1,c2⟩,_⟩:=l2 0 Ab;have Gf:0<cs'.length:=by rw[<- H5 c1,hlen]; exact h0
     have:=c2 0 cs'[0] (Il Gf);simp only[ql,Addr.add,Bp]at this
     cases sp with
     |none=>rfl
     |some s=>unfold World.cell? at this;split at this<;>simp at this
   refine⟨B,off,sp,cap,k,rfl,hl,⟨h0,Zb⟩,?_,trivial⟩;rcases Zb with he|rfl
   . rw[he]; simp[RE]
   refine Aho f hlen Ih l off fun i hi=>?_;obtain⟨⟨cs',c1,c2⟩,_⟩:=l2 i hi;refine⟨cs',c1,fun j v hv=>?_⟩;have:=c2 j v hv;rw[T4,T4]at this;exact⟨this,rfl,by rw[this]; rfl⟩
 obtain⟨_,y,y1,y2⟩:=l2 i hi;rw[Il Aa,Ay]at y1;subst y1;simpa using y2
end
section
variable {H:Type} {enc:TypeId×Value->H} {w:World} {base:Nat} {spare:Nat->Bool} {held:Bool}
def Abe:Tryz.prog.cellsOf 3=1:=A5
def ry:Tryz.prog.cellsOf 9=1:=A5
def Abc:Tryz.prog.cellsOf 22=1:=A5
def fw:Tryz.prog.cellsOf 25=1:=A5
def Abd:Tryz.prog.cellsOf 26=1:=A5
def Arg:Tryz.prog.cellsOf 23=1:=A5
def l9:Tryz.prog.cellsOf 28=6:=A5
def A6x:Tryz.prog.cellsOf 29=1:=A5
def Abf:Tryz.prog.cellsOf 31=14:=A5
def A60:Tryz.prog.cellsOf 4=1:=A5
def A6y:Tryz.prog.cellsOf 32=1:=A5
def Abg:Tryz.prog.cellsOf 34=18:=A5
def A6z:Tryz.prog.cellsOf 36=35:=A5
def ve:∀(fuel:Nat) (cs:Fm) (d:DataW H) (ps:List MemPlace),DataW.trod enc Tryz.prog w base spare held fuel 25 cs=some (d,ps)->uptoBulk d<=L9->∃k:Kd,RL (FW w) O4 w (Ak k) cs/\True:=by
 intro fuel
 induction fuel using Nat.strongRecOn with
 |_ fuel ih=>
  intro cs d ps h hb;obtain⟨xs,n,rfl,hx,hl,Ra,hf⟩:=DataW.trod_struct Tryz.underlying25 h;cases hx;have e0:=hf 0 _ rfl;simp only[fw]at hl
  obtain⟨x0,rfl⟩:∃x,xs=[x]:=by
   match xs,Ra with
   | [x],_=>exact⟨x,rfl⟩
  simp only[uptoBulk,F8,Wn,uptoBulkAll]at hb;obtain⟨v,l,h1,h2,_⟩:=dx (Good:=fun _ _=>True) Ak Ab Ab Tryz.underlying22 fw Aa (fuel:=n) (d:=x0.1) (ps:=x0.2) (cs:=cs) (by simpa[Abc,Gj (eu hl)]using e0) Aa fun m hm cs' d' p' hd hb'=>ih m Aa cs' d' p' hd hb';subst h1;exact⟨.mk l,by rw[Df]; simp only[RL]; exact⟨v,[],rfl,h2,rfl⟩,trivial⟩
def Aim:∀(l:List Cn) (ds:List (DataW H)),l.length=ds.length->(∀ (i:Nat) (hi:i<l.length) (Fa:i<ds.length),Al l[i]<=uptoBulk ds[i])->Bd l<=uptoBulkAll ds
 | [],ds,_,_=>by simp[Bd]
 |x::l,[],h,_=>by simp at h
 |x::l,d::ds,h,hi=>by
  have h1:=hi 0 Ab Ab
  have h2:=Aim l ds (by simpa using h) fun i a b=>by
   have:=hi (i+1) (by simp;omega) (by simp;omega);simpa only[ej]using this
  simp only[Bd,uptoBulkAll];simp only[List.getElem_cons_zero]at h1;omega
def Afw{d:DataW H}(h:DataW.trod enc Tryz.prog w base spare held fuel 26 cs=some (d,ps))(hb:uptoBulk d<=L9):∃(v:Value) (l:List Bu),cs=[v]/\R (FW w) O4 w (.sl .none (At l)) v:=by
 obtain⟨v,l,h1,h2,_⟩:=dx (Good:=fun _ _=>True) (fun s:Bu=>[AV.str s]) Ab (by simp[AV.isCell]) Tryz.underlying26 ry Aa h hb fun m hm cs' d' p' hd hb'=>by
  obtain⟨s,v,rfl,hv⟩:=xg Tryz.underlying9 hd hb';exact⟨s,by simp only[RL]; exact⟨v,[],rfl,hv,rfl⟩,trivial⟩
 exact⟨v,l,h1,h2⟩
def Ac9{d:DataW H}(h:DataW.trod enc Tryz.prog w base spare held fuel 22 cs=some (d,ps))(hb:uptoBulk d<=L9):∃(v:Value) (l:B6),cs=[v]/\R (FW w) O4 w (.sl .none (l.map Ak)) v:=by
 obtain⟨v,l,h1,h2,_⟩:=dx (Good:=fun _ _=>True) Ak Ab Ab Tryz.underlying22 fw Aa h hb fun m hm cs' d' p' hd hb'=>ve m cs' d' p' hd hb';exact⟨v,l,h1,h2⟩
def Avk{l:List α}(h:l.length=6):∃a b c d e f,l=[a,b,c,d,e,f]:=by
 match l,h with
 | [a,b,c,d,e,f],_=>exact⟨a,b,c,d,e,f,rfl⟩
def list9{l:List α}(h:l.length=9):∃a b c d e f g i j,l=[a,b,c,d,e,f,g,i,j]:=by
 match l,h with
 | [a,b,c,d,e,f,g,i,j],_=>exact⟨a,b,c,d,e,f,g,i,j,rfl⟩
def Bby{l:List α}(h:l.length=14):∃a b c d e f g i j k m n o p,l=[a,b,c,d,e,f,g,i,j,k,m,n,o,p]:=by
 match l,h with
 | [a,b,c,d,e,f,g,i,j,k,m,n,o,p],_=>exact⟨a,b,c,d,e,f,g,i,j,k,m,n,o,p,rfl⟩
def Io{g:Gh}{w:World}{x:AV}{xs:Ao}{vs:Fm}(h:R F g w x v)(h':RL F g w xs vs):RL F g w (x::xs) (v::vs):=by
 simp only[RL]; exact⟨v,vs,rfl,h,h'⟩
def qr{g:Gh}{w:World} :RL F g w [] []:=by simp[RL]
def Aae{g:Gh}{w:World}{x:AV}(h:RL F g w [x] [v]):R F g w x v:=by
 simp only[RL]at h;obtain⟨_,_,e,h,_⟩:=h;cases e;exact h
def so:∀(fuel:Nat) (cs:Fm) (d:DataW H) (ps:List MemPlace),DataW.trod enc Tryz.prog w base spare held fuel 28 cs=some (d,ps)->uptoBulk d<=L9->∃c:Cn,RL (FW w) O4 w (Ag c) cs/\Al c<=uptoBulk d:=by
 intro fuel
 induction fuel using Nat.strongRecOn with
 |_ fuel ih=>
  intro cs d ps h hb;obtain⟨xs,n,rfl,hx,hl,Ra,hf⟩:=DataW.trod_struct Tryz.underlying28 h;cases hx;have e0:=hf 0 _ rfl;have e1:=hf 1 _ rfl;have e2:=hf 2 _ rfl;have e3:=hf 3 _ rfl;have e4:=hf 4 _ rfl;have e5:=hf 5 _ rfl;simp only[l9]at hl;obtain⟨x0,x1,x2,x3,x4,x5,rfl⟩:=Avk Ra;obtain⟨c0,c1,c2,c3,c4,c5,rfl⟩:=Avk hl;simp[Abe,ry,fw,Abd,Arg]at e0 e1 e2 e3 e4 e5;simp only[uptoBulk,F8,Wn,uptoBulkAll]at hb;obtain⟨i0,f0,r0⟩:=jp Tryz.underlying3 (d:=x0.1) (ps:=x0.2) e0;obtain⟨i1,f1,r1⟩:=jp Tryz.underlying3 (d:=x1.1) (ps:=x1.2) e1;obtain⟨s,v2,f2,r2⟩:=xg Tryz.underlying9 (d:=x2.1) (ps:=x2.2) e2 Aa;obtain⟨k,r3,_⟩:=ve n [c3] x3.1 x3.2 e3 Aa;obtain⟨v4,ns,f4,r4⟩:=Afw (d:=x4.1) (ps:=x4.2) e4 Aa;obtain⟨v5,l,f5,r5,ds,g1,g2,g3⟩:=dx (Good:=fun c d=>Al c<=uptoBulk d) Ag Ab Ab Tryz.underlying23 l9 Aa (d:=x5.1) (ps:=x5.2) e5 Aa fun m hm cs' d' p' hd hb'=>ih m Aa cs' d' p' hd hb';cases f0;cases f1;cases f2;cases f4;cases f5;refine⟨.mk i0 i1 s k ns l,?_,?_⟩
  . rw[Df]at r3;rw[Ap];exact Io r0 (Io r1 (Io r2 (Io (Aae r3) (Io r4 (Io r5 qr)))))
  have:=Aim l ds g1 g3;simp only[Al,F8,Wn,uptoBulk,uptoBulkAll];omega
def sm_of:∀(fuel:Nat) (cs:Fm) (d:DataW H) (ps:List MemPlace),DataW.trod enc Tryz.prog w base spare held fuel 31 cs=some (d,ps)->uptoBulk d<=L9->∃s:Sm,RL (FW w) O4 w (Bx s) cs/\Dd s:=by
 intro fuel
 induction fuel using Nat.strongRecOn with
 |_ fuel ih=>
  intro cs d ps h hb;obtain⟨xs,n,rfl,hx,hl,Ra,hf⟩:=DataW.trod_struct Tryz.underlying31 h;cases hx;have e0:=hf 0 _ rfl;have e1:=hf 1 _ rfl;have e2:=hf 2 _ rfl;have e3:=hf 3 _ rfl;have e4:=hf 4 _ rfl;have e5:=hf 5 _ rfl;have e6:=hf 6 _ rfl;have e7:=hf 7 _ rfl;have e8:=hf 8 _ rfl;simp only[Abf]at hl;obtain⟨x0,x1,x2,x3,x4,x5,x6,x7,x8,rfl⟩:=list9 Ra;obtain⟨c0,c1,c2,c3,c4,c5,c6,c7,c8,c9,c10,c11,c12,c13,rfl⟩:=Bby hl;simp[Abe,ry,Abc,fw,Abd,l9,A6x]at e0 e1 e2 e3 e4 e5 e6 e7 e8;simp only[uptoBulk,F8,Wn,uptoBulkAll]at hb;obtain⟨i0,f0,r0⟩:=jp Tryz.underlying3 (d:=x0.1) (ps:=x0.2) e0;obtain⟨i1,f1,r1⟩:=jp Tryz.underlying3 (d:=x1.1) (ps:=x1.2) e1;obtain⟨s,v2,f2,r2⟩:=xg Tryz.underlying9 (d:=x2.1) (ps:=x2.2) e2 Aa;obtain⟨c,r3,hc⟩:=so n _ x3.1 x3.2 e3 Aa;obtain⟨k,r4,_⟩:=ve n [c9] x4.1 x4.2 e4 Aa;obtain⟨v5,ks,f5,r5⟩:=Ac9 (d:=x5.1) (ps:=x5.2) e5 Aa;obtain⟨v6,more,f6,r6⟩:=Ac9 (d:=x6.1) (ps:=x6.2) e6 Aa;obtain⟨v7,ns,f7,r7⟩:=Afw (d:=x7.1) (ps:=x7.2) e7 Aa;obtain⟨v8,l,f8,r8,ds,g1,g2,g3⟩:=dx (Good:=fun s _=>Dd s) Bx Ab Ab Tryz.underlying29 Abf Aa (d:=x8.1) (ps:=x8.2) e8 Aa fun m hm cs' d' p' hd hb'=>ih m Aa cs' d' p' hd hb';cases f0;cases f1;cases f2;cases f5;cases f6;cases f7;cases f8;refine⟨.mk i0 i1 s c k ks more ns l,?_,(Ju _).2 ⟨?_,fun x hx=>?_⟩⟩
  . rw[Df]at r4;rw[Bpx];exact Io r0 (Io r1 (Io r2 (Ld r3 (Io (Aae r4) (Io r5 (Io r6 (Io r7 (Io r8 qr))))))))
  . have:=fp;show Al c<=_;omega
  obtain⟨i,hi,rfl⟩:=Ag6 hx;exact g3 i hi (by have:i<l.length:=hi;omega)
def list5{l:List α}(h:l.length=5):∃a b c d e,l=[a,b,c,d,e]:=by
 match l,h with
 | [a,b,c,d,e],_=>exact⟨a,b,c,d,e,rfl⟩
def list8{l:List α}(h:l.length=8):∃a b c d e f g i,l=[a,b,c,d,e,f,g,i]:=by
 match l,h with
 | [a,b,c,d,e,f,g,i],_=>exact⟨a,b,c,d,e,f,g,i,rfl⟩
def Bbz{l:List α}(h:l.length=18):∃a b c d e f g i j k m n o p q r s t,l=[a,b,c,d,e,f,g,i,j,k,m,n,o,p,q,r,s,t]:=by
 match l,h with
 | [a,b,c,d,e,f,g,i,j,k,m,n,o,p,q,r,s,t],_=>exact⟨a,b,c,d,e,f,g,i,j,k,m,n,o,p,q,r,s,t,rfl⟩
def A5c{P:Program}{spare:Nat->Bool}{d:DataW H}(ht:P.underlying t=some .bool)(h:DataW.trod enc P w base spare held fuel t cs=some (d,ps)):
 ∃n,cs=[.bool n]/\R (FW w) O4 w (.bool n) (.bool n):=by
 cases fuel with
 |zero=>simp[DataW.trod]at h
 |succ n=>
  unfold DataW.trod at h;rw[ht]at h;split at h<;>simp_all
  simp only[R]
def A1p:∀(fuel:Nat) (cs:Fm) (d:DataW H) (ps:List MemPlace),DataW.trod enc Tryz.prog w base spare held fuel 34 cs=some (d,ps)->uptoBulk d<=L9->∃c:Te,RL (FW w) O4 w (Bi c) cs/\Dg c:=by
 intro fuel
 induction fuel using Nat.strongRecOn with
 |_ fuel ih=>
  intro cs d ps h hb;obtain⟨xs,n,rfl,hx,hl,Ra,hf⟩:=DataW.trod_struct Tryz.underlying34 h;cases hx;have e0:=hf 0 _ rfl;have e1:=hf 1 _ rfl;have e2:=hf 2 _ rfl;have e3:=hf 3 _ rfl;have e4:=hf 4 _ rfl;have e5:=hf 5 _ rfl;have e6:=hf 6 _ rfl;have e7:=hf 7 _ rfl;simp only[Abg]at hl;obtain⟨x0,x1,x2,x3,x4,x5,x6,x7,rfl⟩:=list8 Ra;obtain⟨c0,c1,c2,c3,c4,c5,c6,c7,c8,c9,c10,c11,c12,c13,c14,c15,c16,c17,rfl⟩:=Bbz hl;simp[Abe,ry,fw,Abd,l9,A6y]at e0 e1 e2 e3 e4 e5 e6 e7;simp only[uptoBulk,F8,Wn,uptoBulkAll]at hb;obtain⟨i0,f0,r0⟩:=jp Tryz.underlying3 (d:=x0.1) (ps:=x0.2) e0;obtain⟨i1,f1,r1⟩:=jp Tryz.underlying3 (d:=x1.1) (ps:=x1.2) e1;obtain⟨s,v2,f2,r2⟩:=xg Tryz.underlying9 (d:=x2.1) (ps:=x2.2) e2 Aa;obtain⟨c,r3,hc⟩:=so n _ x3.1 x3.2 e3 Aa;obtain⟨c',r4,P5⟩:=so n _ x4.1 x4.2 e4 Aa;obtain⟨k,r5,_⟩:=ve n [c15] x5.1 x5.2 e5 Aa;obtain⟨v6,ns,f6,r6⟩:=Afw (d:=x6.1) (ps:=x6.2) e6 Aa;obtain⟨v7,l,f7,r7,ds,g1,g2,g3⟩:=dx (Good:=fun s _=>Dg s) Bi Ab Ab Tryz.underlying32 Abg Aa (d:=x7.1) (ps:=x7.2) e7 Aa fun m hm cs' d' p' hd hb'=>ih m Aa cs' d' p' hd hb';cases f0;cases f1;cases f2;cases f6;cases f7;refine⟨.mk i0 i1 s c c' k ns l,?_,(We _).2 ⟨?_,?_,fun x hx=>?_⟩⟩
  . rw[Df]at r5;rw[Bqt];exact Io r0 (Io r1 (Io r2 (Ld r3 (Ld r4 (Io (Aae r5) (Io r6 (Io r7 qr)))))))
  . have:=fp;show Al c<=_;omega
  . have:=fp;show Al c'<=_;omega
  obtain⟨i,hi,rfl⟩:=Ag6 hx;exact g3 i hi (by have:i<l.length:=hi;omega)
def Arw{d:DataW H}(h:DataW.trod enc Tryz.prog w base spare held fuel 23 cs=some (d,ps))(hb:uptoBulk d<=L9):∃(v:Value) (l:Ax),cs=[v]/\R (FW w) O4 w (.sl .none (l.map Ag)) v/\∀x∈l,Al x<=1000000000000:=by
 obtain⟨v,l,h1,h2,ds,g1,g2,g3⟩:=dx (Good:=fun c d=>Al c<=uptoBulk d) Ag Ab Ab Tryz.underlying23 l9 Aa h hb fun m hm cs' d' p' hd hb'=>so m cs' d' p' hd hb';refine⟨v,l,h1,h2,fun x hx=>?_⟩;obtain⟨i,hi,rfl⟩:=Ag6 hx;have h1:=g3 i hi Aa;have h2:=Ain (Cy (l:=ds) (n:=i) Aa);have:=fp;omega
def Asj{d:DataW H}{cs:Array Value}(hv:v= .agg cs)(h:DataW.trod enc Tryz.prog w base spare held fuel 36 v.cells.toList=some (d,ps))(hb:uptoBulk d<=L9):∃e:El,R (FW w) O4 w (As e) v/\Kv e:=by
 subst hv;simp only[Value.cells]at h;obtain⟨xs,n,rfl,hx,hl,Ra,hf⟩:=DataW.trod_struct Tryz.underlying36 h;cases hx;have e0:=hf 0 _ rfl;have e1:=hf 1 _ rfl;have e2:=hf 2 _ rfl;have e3:=hf 3 _ rfl;have e4:=hf 4 _ rfl;simp only[A6z]at hl;obtain⟨x0,x1,x2,x3,x4,rfl⟩:=list5 Ra
 obtain⟨c0,c1,c2,r,hr⟩:∃c0 c1 c2 r,cs.toList=c0::c1::c2::r:=by
  match hc:cs.toList with
  | []=>rw[hc]at hl;simp at hl
  | [a]=>rw[hc]at hl;simp at hl
  | [a,b]=>rw[hc]at hl;simp at hl
  |a::b::c::r=>exact⟨a,b,c,r,rfl⟩
 rw[hr]at e0 e1 e2 e3 e4 hl;simp[A60,Abc,Arg,Abf,Abg]at e0 e1 e2 e3 e4 hl;simp only[uptoBulk,F8,Wn,uptoBulkAll]at hb;obtain⟨v0,ks,f0,r0⟩:=Ac9 (d:=x0.1) (ps:=x0.2) e0 Aa;obtain⟨v1,l,f1,r1,S6⟩:=Arw (d:=x1.1) (ps:=x1.2) e1 Aa;obtain⟨b,f2,r2⟩:=A5c Tryz.underlying4 (d:=x2.1) (ps:=x2.2) e2;rw[Gj (by simp;omega)]at e4;obtain⟨s,r3,hs⟩:=sm_of n _ x3.1 x3.2 e3 Aa;obtain⟨t,r4,ht⟩:=A1p n _ x4.1 x4.2 e4 Aa;cases f0;cases f1;cases f2;refine⟨⟨ks,l,b,s,t⟩,?_,⟨hs,ht,S6⟩⟩;simp only[As,Es,R];refine⟨cs,rfl,?_⟩;rw[hr];refine Io r0 (Io r1 (Io r2 ?_));have:=Ld r3 r4;rwa [Ahc]at this
def Bqz{d:DataW H}{cs:Array Value}(hv:v= .agg cs)(h:DataW.trod enc Tryz.prog w base spare held fuel 34 v.cells.toList=some (d,ps))(hb:uptoBulk d<=L9):∃c:Te,R (FW w) O4 w (Ah c) v/\Dg c:=by
 subst hv;obtain⟨c,h1,h2⟩:=A1p fuel _ d ps h hb;exact⟨c,by simp only[Ah,R]; exact⟨cs,rfl,h1⟩,h2⟩
end
end
section
open Go.ChangeShapes Go.WideShapes Go.ChangeAt Go.RowKit Go.Lib
def A8l:String:=match(Rows.laid_strconv_ErrRange:DataW Unit)with
 | .iface n _=>n
 |_=> ""
def A8m(u:TypeId)(h:Tryz.prog.typeName? 3 u=some A8l):u=340:=
 typeName_ptr_named (nm:= "errors.errorString") A5 A5 Di u (h.trans (A4 some A5))
def rf:List Int:=(List.range 256).map fun c=>if rq c then 1 else 0
def A4j:String:= "strings.asciiSpace"
def A4k{H:Type} :(Rows.laid_strings_asciiSpace:DataW H)=tabData .u8 rf:=A5
def A9l{W:World}(hL:laidMetH Tryz.prog Rows.liftAppliesUptoRow.laid W)(hS:W.ShapedOpen Tryz.prog):Ja Tryz.prog (FW W) W:=by
 have hL':laidMet Tryz.prog Rows.liftAppliesUptoRow.laid W:=hL;refine⟨?_,fun c hc=>?_,?_⟩
 . obtain⟨a1,t1,H8,Q1,ht1,_⟩:=laid_sentinel (g:=ii) hL'.tail.tail.tail A5 A5 Tryz.underlying225 A8m Tryz.underlying340 Tryz.underlying342 rfl rfl Tryz.underlying9 A5 A5;have hc:=World.var?_cell (g:=ii) A5 H8 0;have P5:W.cell? ⟨ii,0,none⟩=some (.iface 340 (.pointer (some a1))):=by simpa using hc
   exact⟨⟨rfl,by rw[P5]; rfl⟩,_,_,P5⟩
 . have hT:Lib.TabIs Tryz.prog W A4j .u8 rf:=by
    refine Lib.tabIs_of_head (rest:=[]) (g:=ig) (t:=346) (e:=5) (n:=256) A5 A5 Tryz.underlying346 Tryz.underlying5 A5 A5 ?_;rw[<- A4k];exact hL'.tail.tail.tail.tail.tail.tail
   have:=hT.cell (g:=ig) A5 c (by simpa[rf]using hc)
   have h2:W.cell? ⟨ig,c,none⟩=some (.int .u8 (if rq c then 1 else 0)):=by
    rw[this]; simp[rf,List.getD,hc]
   exact⟨⟨rfl,by rw[h2]; rfl⟩,h2⟩
 obtain⟨m,hm⟩:=cell_of_shapedOpen_int (g:=ti) (t:=3) (zero:=#[.int .i64 0]) (k:=.i64) hS (Sl A5) A5 rfl A5 A5 Tryz.underlying3;exact⟨⟨rfl,by rw[hm]; rfl⟩,m,hm⟩
def Boo{W W':World}{p:MemPlace}(h:W'.heap[p.block]? =W.heap[p.block]?):W.sameAt W' p:=by
 cases p with
 |cell b off=>
  simp only[MemPlace.block]at h
  simp only[World.sameAt,World.cell?,h]
 |map b=>
  simp only[MemPlace.block]at h;simp only[World.sameAt,h]
def Bat{W W':World}{may:MemPlace->Prop}(h0:W'.os=W.os/\W'.output=W.output)(h:∀i,i<W.heap.size->W'.heap[i]? =W.heap[i]?):W.keptBut W' may:=by
 refine⟨h0.1,h0.2,fun i hi=>?_⟩;rw[h i hi];split
 . rename_i h1 h2;rw[h1]at h2;cases h2;exact⟨rfl,rfl,rfl,fun _ _=>rfl⟩
 . rename_i h1 h2;rw[h1]at h2;cases h2;exact .inr ⟨rfl,rfl⟩
 rfl
def A10{H:Type}{enc:TypeId×Value->H}{P:Program}(hl:laidOutB P=true){W W':World}{sp':Nat->Bool} :∀{ts:List TypeId} {vs:Fm} {ds:List (DataW H)} {p:List MemPlace},(∀ t∈ts,P.readableRec t=true/\t<P.types.size)->
 DataW.TrodAll enc P W 0 (fun _=>true) true ts vs ds p->(∀ x∈p,W.sameAt W' x)->(∀ x∈p,sp' x.block=true)->DataW.TrodAll enc P W' 0 sp' true ts vs ds p
 | [],_,_,_,_,h,_,_=>by
   obtain⟨rfl,rfl,rfl⟩:=trodAll_nil h
   rfl
 |t::ts,_,_,_,ht,h,h1,h2=>by
  obtain⟨v,vs1,d,ds1,p,q,rfl,rfl,rfl,h0,r⟩:=trodAll_cons h;exact⟨p,q,WideElems.Trod_stays hl (ht t Ab).1 (ht t Ab).2 h0 (fun x hx=>h1 x (by simp[hx])) (fun x hx=>h2 x (by simp[hx])),A10 hl (fun t h=>ht t (by simp[h])) r (fun x hx=>h1 x (by simp[hx])) (fun x hx=>h2 x (by simp[hx])),rfl⟩
def Ba4(H:Type)(enc:TypeId×Value->H)(F:Stop.Interp)(W:World)(base:Nat)(args:Array Value)(ds gs:List (DataW H))(before:List MemPlace)
 (Fb:∀(j:Nat) t v,Tryz.f3.params[j]? =some t->args[j]? =some v->Value.okWide Tryz.prog W .any base t v)
 (hW:DataW.Whole enc Tryz.prog Tryz.f3.params.toList (Rows.OpenSpec.upto Rows.liftAppliesSpec).vars false W args.toList ds gs before)
 (hk:∀k,(Rows.OpenSpec.upto Rows.liftAppliesSpec).cond=some k->k H (ds++gs)=true)
 (hL:laidMetH Tryz.prog Rows.liftAppliesUptoRow.laid W) (hS:W.ShapedOpen Tryz.prog):
 Calls Tryz.prog 3 args W fun e W'=>∃v,e= .returned v/\((Rows.OpenSpec.upto Rows.liftAppliesSpec).at F).post enc Tryz.prog Tryz.f3 false true false false W args v W':=by
 have hW':=hW;have Af:=hW.lt;obtain⟨p,q,hA0,hV,rfl,hfz,Ke⟩:=hW;have hA:DataW.TrodAll enc Tryz.prog W 0 (fun _=>true) true Tryz.f3.params.toList args.toList ds p:=hA0;rw[Tryz.params3]at hA Fb;have hA1:=hA;obtain⟨v0,vs0,d0,ds0,p0,q0,tq,rfl,rfl,h0,r0⟩:=trodAll_cons hA;obtain⟨v1,vs1,d1,ds1,p1,q1,rfl,rfl,rfl,h1,r1⟩:=trodAll_cons r0;obtain⟨v2,vs2,d2,ds2,p2,q2,rfl,rfl,rfl,h2,r2⟩:=trodAll_cons r1;obtain⟨v3,vs3,d3,ds3,p3,q3,rfl,rfl,rfl,h3,r3⟩:=trodAll_cons r2;obtain⟨rfl,rfl,rfl⟩:=trodAll_nil r3;obtain rfl:args= #[v0,v1,v2,v3]:=by cases args;simp_all
 obtain⟨rfl,rfl⟩:=trodVars_none hV;have Y2:Rows.uptoSmall H [d0,d1,d2,d3]=true:=by simpa using hk _ rfl
 have hb:Rows.uptoBulk d0<=L9/\Rows.uptoBulk d1<=L9/\Rows.uptoBulk d2<=L9/\Rows.uptoBulk d3<=L9:=by
  unfold L9;have:=Sl Y2;simp only[Rows.uptoBulkAll]at this;omega
 obtain⟨cs,rfl⟩:∃cs,v0= .agg cs:=by
  have h:=Fb 0 36 v0 rfl rfl;unfold Value.okWide at h;rw[Tryz.underlying36]at h;obtain⟨cs,h,_⟩:=h;exact⟨cs,h⟩
 obtain⟨cs1,rfl⟩:∃cs,v1= .agg cs:=by
  have h:=Fb 1 36 v1 rfl rfl;unfold Value.okWide at h;rw[Tryz.underlying36]at h;obtain⟨cs,h,_⟩:=h;exact⟨cs,h⟩
 obtain⟨cs3,rfl⟩:∃cs,v3= .agg cs:=by
  have h:=Fb 3 34 v3 rfl rfl;unfold Value.okWide at h;rw[Tryz.underlying34]at h;obtain⟨cs,h,_⟩:=h;exact⟨cs,h⟩
 obtain⟨sa,sn,sc,rfl⟩:=okWide_slice Tryz.underlying23 (Fb 2 23 v2 rfl rfl);obtain⟨n0,h0⟩:=h0;obtain⟨n1,h1⟩:=h1;obtain⟨n2,h2⟩:=h2;obtain⟨n3,h3⟩:=h3;obtain⟨e,hR0,Y2⟩:=Asj rfl h0 hb.1;obtain⟨a,hR1,ir⟩:=Asj rfl h1 hb.2.1;obtain⟨v,l,e3,hR2,Mc⟩:=Arw h2 hb.2.2.1;obtain⟨c,hR3,M2⟩:=Bqz rfl h3 hb.2.2.2
 obtain rfl:v= .slice sa sn sc:=by
  simp only[Value.cells]at e3;cases e3;rfl
 have Xr:=(A3l A41 e a l c Y2 ir Mc M2).2 (FW W) O4 W [.agg cs,.agg cs1,.slice sa sn sc,.agg cs3] (A9l hL hS) (St.none (fun a ha=>by
  obtain⟨v,hv⟩:=Option.isSome_iff_exists.1 ha.2;unfold World.cell? at hv;rcases E8 a.block W.heap.size with h|h
  . exact h
  simp[h]at hv) (fun b off s h=>by cases h.1)) (Io hR0 (Io hR1 (Io hR2 (Io hR3 qr))))
 refine Xr.mono ?_;rintro e W' ⟨v,F',g',rfl,hv,_,hx⟩;have At7:∀i,i<W.heap.size->W'.heap[i]? =W.heap[i]?:=fun i hi=>hx.frame i hi fun b hb=>absurd hb (Jr b);obtain rfl:v= .bool true:=by simpa only[R]using hv
 refine⟨_,rfl,_,[],_,[],p0++(p1++(p2++(p3++[]))),[],hW',?_,?_,rfl,Bat hx.io At7,fun h=>by cases h⟩
 . exact trodAll_cons_mk (shut_bool Tryz.underlying4 _) trodAll_mk0
 rw[Tryz.params3];refine A10 A5 (fun t ht=>?_) hA1 (fun x hx=>Boo (At7 _ (Af x (List.mem_append_left _ hx)))) (fun x hx=>by simpa using Af x (List.mem_append_left _ hx));have:t=36\/t=23\/t=34:=by simpa using ht
 rcases this with rfl|rfl|rfl
 . exact⟨A5,Sl A5⟩
 . exact⟨A5,Sl A5⟩
 exact⟨A5,Sl A5⟩
def Ba5(os:Os)(started:os.Started)(H:Type)(enc:TypeId×Value->H)(F:Stop.Interp):
 ReturnsInHanded {} Tryz.checked os 3 .any ((Rows.OpenSpec.upto Rows.liftAppliesSpec).preRow enc Tryz.prog Tryz.f3 Rows.liftAppliesUptoRow.domain false Rows.liftAppliesUptoRow.laid) (((Rows.OpenSpec.upto Rows.liftAppliesSpec).at F).post enc Tryz.prog Tryz.f3 false true false false):=
 returnsInHanded_of_row (C:=Tryz.checked) (s:=Rows.OpenSpec.upto Rows.liftAppliesSpec) own started A5 Tryz.func3
  (Bso os enc) (fun W base args ds gs before Fb hW _ hk _ hL hS _=>Ba4 H enc F W base args ds gs before Fb hW hk hL hS)
def Ba7:Rows.LiftAppliesUptoSaid:=
 OpenClaim.holds_of_cond 3 Tryz.f3 rfl rfl rfl rfl rfl rfl rfl ⟨rfl,rfl,rfl,rfl,rfl⟩ rfl rfl rfl rfl rfl Bai Tryz.func3 Bag Bah Baj
  (fun os started H enc _ F=>by rw[OpenClaim.pre_eq_preRow]; exact Ba5 os started H enc F)
def Ba6(f:FuncId)(fn:Func)(hf:Tryz.pinned.checked.prog.funcNamed Rows.liftAppliesUptoRow.func=some f)(hfn:Tryz.pinned.checked.prog.funcs[f]? =some fn):
 true=Tryz.pinned.checked.prog.looks []/\∀(j:Nat) t,fn.params[j]? =some t->Tryz.pinned.checked.prog.wantsStandIn t=false:=by
 obtain rfl:f=3:=ez ((show Tryz.prog.funcNamed Rows.liftAppliesUptoRow.func=some 3 by kernel_rfl).symm.trans hf) |>.symm;obtain rfl:fn=Tryz.f3:=(ez (Tryz.func3.symm.trans hfn)).symm;refine⟨A5,fun j t ht=>?_⟩;rw[Tryz.params3]at ht;have:t=36\/t=23\/t=34:=by simpa using A23 ht
 rcases this with rfl|rfl|rfl
 . exact(show Tryz.prog.wantsStandIn 36=false by kernel_rfl)
 . exact(show Tryz.prog.wantsStandIn 23=false by kernel_rfl)
 exact(show Tryz.prog.wantsStandIn 34=false by kernel_rfl)
def rw_wf:Rows.liftAppliesUptoRow.wfByText (Rows.OpenSpec.upto Rows.liftAppliesSpec)=true:=A5
def Bom:Tryz.pinned.checked.prog.mainIs=some (Rows.liftAppliesUptoCard.stood.harness.1,Rows.liftAppliesUptoCard.stood.harness.2.toList):=A5
def nogo:Tryz.pinned.checked.prog.funcs.any Func.goes=false:=A5
def A9n(P:Program)(h:P.funcs.any Func.goes=false)(f:FuncId):P.goes f=false:=by
 have key:∀g:Nat,(P.funcs[g]?).any Func.goes=false:=fun g=>by
  cases hg:P.funcs[g]? with
  |none=>rfl
  |some fn=>
   rw[Array.any_eq_false']at h;simpa using h fn (A23 hg)
 unfold Program.goes;rw[h,Bool.and_false,Bool.or_false];simp only[key];simp
def A9m(P:Program)(h:P.funcs.any Func.goes=false)(func:String):P.goesAt .entering func=false:=by
 have hf:P.goesFrom func=false:=by
  unfold Program.goesFrom;cases P.funcNamed func<;>simp[A9n P h]
 unfold Program.goesAt;rw[hf]; rfl
def Bol:false=Rows.liftAppliesUptoRow.goesBy Tryz.pinned.checked.prog:=(A9m _ nogo Rows.liftAppliesUptoRow.func).symm
theorem LiftAppliesUpto_card:Rows.LiftAppliesUptoCardSaid:=
 Claim7.holds_tied_plain_at .later [] _ _ _ _ Ba7 (fun _ h=>by cases h) rw_wf (fun _ h=>by cases h) liftAppliesUpto_row_tie rfl ⟨rfl,rfl⟩ Bom rfl Ba6 Bol
end
