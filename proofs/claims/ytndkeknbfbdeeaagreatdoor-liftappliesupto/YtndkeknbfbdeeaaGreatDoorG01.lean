/- A part of the proof that LiftApplies answers true. -/
import Derived.Calls
import Derived.Orders
import Derived.MapKept
import Derived.Laws.Sem
import Derived.Laws.Cells
import Derived.Test.YtndkeknbfbdeeaaGreatDoorG00
set_option linter.all false
set_option maxHeartbeats 4000000
set_option maxRecDepth 100000
namespace Go.Proofs.YtndkeknbfbdeeaaGreatDoor
open Go
variable {B b:Nat}{t ty:TypeId}{v:Value}
section
inductive Dh where
 |none
 |nilT
 |nn
 |tight
 |own (t:Nat)
 |lazy (t:Nat)
 deriving DecidableEq
inductive AV where
 |bool (b:Bool)
 |int (k:IntKind) (n:Int)
 |str (s:List UInt8)
 |nilp
 |nilm
 |ptr (b off:Nat)
 |eptr (cells:List AV)
 |mapv (b:Nat)
 |val (v:Value)
 |vsl (b n:Nat)
 |sl (tok:Dh) (els:List (List AV))
 |fn (f:Fn) (first cap:List AV)
 |nilf
 |iface (t:Nat) (v:AV)
 |nili
 |agg (cs:List AV)
 |tup (cs:List AV)
def vq:Value->Bool
 | .bool _ | .agg _ | .tuple _=>false
 |_=>true
def AV.isCell:AV->Bool
 | .agg _ | .tup _=>false
 |_=>true
inductive HB where
 |var (cs:List AV)
 |tvar (e:TypeId) (cs:List AV)
 |tok (n k:Nat) (e:TypeId)
 |mp (ks:List Nat)
def A1:Nat:=2^30
structure Gh where
 blk:Nat->Option Nat
 tk:Nat->Option (Nat×Nat)
def RT(g:Gh)(n:Nat)(a:Addr)(cap:Nat):Dh->Prop
 | .none=>True
 | .nilT=>False
 | .lazy _=>False
 | .nn=>True
 | .tight=>cap=n
 | .own t=>∃m c,g.tk t=some (m,c)/\n<=m/\(n=m->g.blk t=some a.block/\a.off=0/\cap=c/\a.spot=Option.none)
mutual
def R(F:Addr->Prop)(g:Gh)(w:World):AV->Value->Prop
 | .bool b,v=>v= .bool b
 | .int k n,v=>v= .int k n/\k.has n
 | .str s,v=>v= .string ⟨s.toArray⟩/\s.length<=A1
 | .nilp,v=>v= .pointer none
 | .nilm,v=>v= .map none
 | .ptr b off,v=>∃B,g.blk b=some B/\g.tk b=none/\v= .pointer (some ⟨B,off,none⟩)
 | .eptr cs,v=>∃B off,v= .pointer (some ⟨B,off,none⟩)/\RM F g w B off cs
 | .mapv b,v=>∃B,g.blk b=some B/\g.tk b=none/\v= .map (some B)
 | .val u,v=>v=u/\vq u=true
 | .vsl b n,v=>∃B cap,g.blk b=some B/\g.tk b=none/\v= .slice (some ⟨B,0,none⟩) n cap/\n<=A1
 | .sl tok els,v=>els.length<=A1/\((els=[]/\v= .slice none 0 0/\(∀ t,tok≠.own t)/\tok≠.nn)\/
  ∃B off sp cap k,v= .slice (some ⟨B,off,sp⟩) els.length cap/\els.length<=cap/\(0<k/\(els=[]\/sp=Option.none))/\RE F g w B off k els/\RT g els.length ⟨B,off,sp⟩ cap tok)
 | .fn f first cap,v=>∃a1 a2,v= .func f a1 a2/\RL F g w first a1.toList/\RL F g w cap a2.toList
 | .nilf,v=>v= .nilFunc
 | .iface t x,v=>∃u,v= .iface t u/\R F g w x u
 | .nili,v=>v= .nilIface
 | .agg cs,v=>∃a,v= .agg a/\RL F g w cs a.toList
 | .tup cs,v=>∃a,v= .tuple a/\RL F g w cs a.toList
def RL(F:Addr->Prop)(g:Gh)(w:World):List AV->List Value->Prop
 | [],vs=>vs=[]
 |x::xs,vs=>∃v r,vs=v::r/\R F g w x v/\RL F g w xs r
def RM(F:Addr->Prop)(g:Gh)(w:World):Nat->Nat->List AV->Prop
 |_,_,[]=>True
 |B,off,x::xs=>(x.isCell=true/\∃v,F ⟨B,off,none⟩/\w.cell? ⟨B,off,none⟩=some v/\R F g w x v)/\RM F g w B (off+1) xs
def RE(F:Addr->Prop)(g:Gh)(w:World):Nat->Nat->Nat->List (List AV)->Prop
 |_,_,_,[]=>True
 |B,off,k,x::xs=>x.length=k/\RM F g w B off x/\RE F g w B (off+k) k xs
end
structure Gh.le (g g':Gh):Prop where
 blk:∀b B,g.blk b=some B->g.tk b=none->g'.blk b=some B/\g'.tk b=none
 tk:∀t m c,g.tk t=some (m,c)->∃m' c',g'.tk t=some (m',c')/\m<=m'/\(m=m'->c'=c/\g'.blk t=g.blk t)
def Gh.le_refl(g:Gh):g.le g:=⟨fun _ _ h h'=>⟨h,h'⟩,fun _ m c h=>⟨m,c,h,Bm _,fun _=>⟨rfl,rfl⟩⟩⟩
def Gh.le_trans{a b c:Gh}(h:a.le b)(h':b.le c):a.le c where
 blk x B hx ht:=let⟨p,q⟩:=h.blk x B hx ht;h'.blk x B p q
 tk t m n ht:=by
  obtain⟨m1,c1,h1,l1,e1⟩:=h.tk t m n ht;obtain⟨m2,c2,h2,l2,e2⟩:=h'.tk t m1 c1 h1;refine⟨m2,c2,h2,Ps l1 l2,fun e=>?_⟩;have hm:m=m1:=Aa;have H7:m1=m2:=Aa;exact⟨(e2 H7).1.trans (e1 hm).1,(e2 H7).2.trans (e1 hm).2⟩
def RT.mono{g g':Gh}(hg:g.le g'){n:Nat}{a:Addr}{cap:Nat}{t:Dh}(h:RT g n a cap t):RT g' n a cap t:=by
 cases t with
 |none=>trivial
 |nilT=>exact h
 |lazy _=>exact h
 |nn=>trivial
 |tight=>exact h
 |own t=>
  obtain⟨m,c,h1,h2,h3⟩:=h;obtain⟨m',c',e1,e2,e3⟩:=hg.tk t m c h1;refine⟨m',c',e1,Ps h2 e2,fun e=>?_⟩;have hm:m=m':=Aa;obtain⟨ec,eb⟩:=e3 hm;obtain⟨p,q,r,s⟩:=h3 Aa;exact⟨eb.trans p,q,r.trans ec.symm,s⟩
structure Fi (F:Addr->Prop) (g:Gh) (w:World) (F':Addr->Prop) (g':Gh) (w':World):Prop where
 sub:∀a,F a->F' a
 keep:∀a,F a->w'.cell? a=w.cell? a
 gh:g.le g'
section
variable {F F':Addr->Prop} {g g':Gh} {w w':World}
mutual
def R.mono(K:Fi F g w F' g' w'):∀(x:AV) (v:Value),R F g w x v->R F' g' w' x v
 | .bool _,_,h=>h
 | .int _ _,_,h=>h
 | .str _,_,h=>h
 | .nilp,_,h=>h
 | .nilm,_,h=>h
 | .ptr b off,v,h=>by
   obtain⟨B,h1,h2,h3⟩:=(by simpa only[R]using h:∃B,g.blk b=some B/\g.tk b=none/\v= .pointer (some ⟨B,off,none⟩));obtain⟨p,q⟩:=K.gh.blk b B h1 h2
   simp only[R]; exact⟨B,p,q,h3⟩
 | .eptr cs,v,h=>by
   simp only[R]at h ⊢;obtain⟨B,off,h1,h2⟩:=h
   exact⟨B,off,h1,RM.mono K _ _ cs h2⟩
 | .mapv b,v,h=>by
   obtain⟨B,h1,h2,h3⟩:=(by simpa only[R]using h:∃B,g.blk b=some B/\g.tk b=none/\v= .map (some B));obtain⟨p,q⟩:=K.gh.blk b B h1 h2
   simp only[R]; exact⟨B,p,q,h3⟩
 | .val _,_,h=>h
 | .vsl b n,v,h=>by
   obtain⟨B,cap,h1,h2,h3⟩:=(by simpa only[R]using h:∃B cap,g.blk b=some B/\g.tk b=none/\v= .slice (some ⟨B,0,none⟩) n cap/\n<=A1);obtain⟨p,q⟩:=K.gh.blk b B h1 h2
   simp only[R]; exact⟨B,cap,p,q,h3⟩
 | .sl tok els,v,h=>by
   simp only[R]at h ⊢;obtain⟨h0,h⟩:=h;refine⟨h0,?_⟩;rcases h with h|⟨B,off,sp,cap,k,h1,h2,hk,h3,h4⟩
   . exact .inl h
   exact .inr ⟨B,off,sp,cap,k,h1,h2,hk,RE.mono K _ _ _ els h3,h4.mono K.gh⟩
 | .fn f first cap,v,h=>by
   simp only[R]at h ⊢;obtain⟨a1,a2,h1,h2,h3⟩:=h
   exact⟨a1,a2,h1,RL.mono K first _ h2,RL.mono K cap _ h3⟩
 | .nilf,_,h=>h
 | .iface t x,v,h=>by
   simp only[R]at h ⊢;obtain⟨u,h1,h2⟩:=h
   exact⟨u,h1,R.mono K x u h2⟩
 | .nili,_,h=>h
 | .agg cs,v,h=>by
   simp only[R]at h ⊢;obtain⟨a,h1,h2⟩:=h
   exact⟨a,h1,RL.mono K cs _ h2⟩
 | .tup cs,v,h=>by
   simp only[R]at h ⊢;obtain⟨a,h1,h2⟩:=h;exact⟨a,h1,RL.mono K cs _ h2⟩
def RL.mono(K:Fi F g w F' g' w'):∀(x:List AV) (v:List Value),RL F g w x v->RL F' g' w' x v
 | [],_,h=>h
 |x::xs,v,h=>by
  simp only[RL]at h ⊢;obtain⟨u,r,h1,h2,h3⟩:=h;exact⟨u,r,h1,R.mono K x u h2,RL.mono K xs r h3⟩
def RM.mono(K:Fi F g w F' g' w'):∀(B off:Nat) (x:List AV),RM F g w B off x->RM F' g' w' B off x
 |_,_,[],h=>h
 |B,off,x::xs,h=>by
  simp only[RM]at h ⊢;obtain⟨⟨h0,v,h1,h2,h3⟩,h4⟩:=h;exact⟨⟨h0,v,K.sub _ h1,(K.keep _ h1).trans h2,R.mono K x v h3⟩,RM.mono K _ _ xs h4⟩
def RE.mono(K:Fi F g w F' g' w'):∀(B off k:Nat) (x:List (List AV)),RE F g w B off k x->RE F' g' w' B off k x
 |_,_,_,[],h=>h
 |B,off,k,x::xs,h=>by
  simp only[RE]at h ⊢;obtain⟨h1,h2,h3⟩:=h;exact⟨h1,RM.mono K _ _ x h2,RE.mono K _ _ _ xs h3⟩
end
end
def Pa:Nat:=2^20
def Kj:List Nat:=[Pa]
structure Rp (es:Array MapEntry) (ck:Nat) (ks:List Nat):Prop where
 stamped:Go.MapKept.Stamped es ck
 key:es.toList.map (·.key)=ks.map fun n=>.int .i64 n
 lt:∀n∈ks,n<Pa
structure St (F:Addr->Prop) (g:Gh) (H:List HB) (w:World):Prop where
 live:∀a,F a->a.block<w.heap.size
 beyond:∀b,H.length<=b->g.blk b=none/\g.tk b=none
 inj:∀b b' B,g.blk b=some B->g.blk b'=some B->b=b'
 var:∀b cs,H[b]? =some (.var cs)->∃B vs e,g.blk b=some B/\g.tk b=none/\w.heap[B]? =some (.cells vs e (0,0))/\RL F g w cs vs.toList/\∀off,¬F ⟨B,off,none⟩
 tok:∀t n k ty,H[t]? =some (.tok n k ty)->∃B cap vs e fr,g.blk t=some B/\g.tk t=some (n,cap)/\w.heap[B]? =some (.cells vs e fr)/\(fr.2<=n*k/\vs.size=cap*k/\(ty≠0->e=ty)/\(k≠1\/e=3->fr=(0,0)))/\n<=cap/\∀off,n*k<=off->¬F ⟨B,off,none⟩
 spots:∀b off s,¬F ⟨b,off,some s⟩
 tvar:∀b e cs,H[b]? =some (.tvar e cs)->∃B vs,g.blk b=some B/\g.tk b=none/\w.heap[B]? =some (.cells vs e (0,0))/\RL F g w cs vs.toList/\∀off,¬F ⟨B,off,none⟩
 mp:∀b ks,H[b]? =some (.mp ks)->(ks=Kj/\g.blk b=none/\g.tk b=none)\/∃B es ck,g.blk b=some B/\g.tk b=none/\w.heap[B]? =some (.map es ck)/\Rp es ck ks
structure Bn (F:Addr->Prop) (g:Gh) (H:List HB) (w:World) (F':Addr->Prop) (g':Gh) (H':List HB) (w':World):Prop where
 sub:∀a,F a->F' a
 keep:∀a,F a->w'.cell? a=w.cell? a
 gh:g.le g'
 size:w.heap.size<=w'.heap.size
 frame:∀B,B<w.heap.size->(∀ b,b<H.length->g.blk b≠some B)->w'.heap[B]? =w.heap[B]?
 new:∀a,F' a->F a\/w.heap.size<=a.block\/∃t,t<H.length/\g.tk t≠Option.none/\g.blk t=some a.block
 blks:∀b B,b<H'.length->g'.blk b=some B->(b<H.length/\g.blk b=some B)\/w.heap.size<=B
 len:H.length<=H'.length
 io:w'.os=w.os/\w'.output=w.output
def Bn.refl(F:Addr->Prop)(g:Gh)(H:List HB)(w:World):Bn F g H w F g H w where
 sub _ h:=h
 keep _ _:=rfl
 gh:=Gh.le_refl g
 size:=Bm _
 frame _ _ _:=rfl
 new _ h:=.inl h
 blks _ _ h h':=.inl ⟨h,h'⟩
 len:=Bm _
 io:=⟨rfl,rfl⟩
def Bn.trans{F F1 F2:Addr->Prop}{g g1 g2:Gh}{H H1 H2:List HB}{w w1 w2:World}(h:Bn F g H w F1 g1 H1 w1)(h':Bn F1 g1 H1 w1 F2 g2 H2 w2):Bn F g H w F2 g2 H2 w2 where
 sub a ha:=h'.sub a (h.sub a ha)
 keep a ha:=(h'.keep a (h.sub a ha)).trans (h.keep a ha)
 gh:=Gh.le_trans h.gh h'.gh
 size:=Ps h.size h'.size
 frame B hB hn:=by
  refine(h'.frame B (Qp hB h.size) fun b hb e=>?_).trans (h.frame B hB hn);rcases h.blks b B hb e with⟨p,q⟩|p
  . exact hn b p q
  omega
 new a ha:=by
  rcases h'.new a ha with p|p|⟨t,p,q,r⟩
  . exact h.new a p
  . exact .inr (.inl (Ps h.size p))
  rcases h.blks t _ p r with⟨p',q'⟩|p'
  . refine .inr (.inr ⟨t,p',fun e=>?_,q'⟩);obtain⟨_,e'⟩:=h.gh.blk t _ q' e;exact q e'
  exact .inr (.inl p')
 blks b B hb e:=by
  rcases h'.blks b B hb e with⟨p,q⟩|p
  . rcases h.blks b B p q with p'|p'
    . exact .inl p'
    exact .inr p'
  exact .inr (Ps h.size p)
 len:=Ps h.len h'.len
 io:=⟨h'.io.1.trans h.io.1,h'.io.2.trans h.io.2⟩
def Bn.keeps{F F':Addr->Prop}{g g':Gh}{H H':List HB}{w w':World}(h:Bn F g H w F' g' H' w'):Fi F g w F' g' w':=⟨h.sub,h.keep,h.gh⟩
abbrev Ao:=List AV
abbrev Ai:=List HB
abbrev Fm:=List Value
end
inductive NK where
 |sl|pt|fn|ifc
inductive AR where
 |tmp (t:Nat)
 |cst (v:AV)
inductive Ek where
 |mov (x:AR)
 |pick (c a b:AR)
 |alloc (zero:List AV)
 |box (x:AR)
 |boxT (e:TypeId) (x:AR)
 |build (zero:List AV) (parts:List (Nat×Nat×AR))
 |buildSl (k:Nat) (zero:List AV) (len:Nat) (parts:List (Nat×AR))
 |emptySl
 |makeSl (k:Nat) (zero:List AV) (n:Nat)
 |convSB (x:AR)
 |load (ag:Bool) (n:Nat) (x:AR)
 |store (n:Nat) (a x:AR)
 |nilck (x:AR)
 |bin (op:BinOp) (x y:AR)
 |binB (neg:Bool) (x y:AR)
 |binNil (c:NK) (neg:Bool) (x:AR)
 |un (op:UnOp) (x:AR)
 |convInt (k:IntKind) (x:AR)
 |mkfn (f:Fn) (first cap:List AR)
 |slice (k:Nat) (x:AR) (lo hi mx:Option AR)
 |sslice (x:AR) (lo hi:Option AR)
 |faddr (off:Nat) (x:AR)
 |iaddr (k:Nat) (x i:AR)
 |sidx (x i:AR)
 |extract (x:AR) (i:Nat)
 |fld (ag:Bool) (off n:Nat) (x:AR)
 |len (x:AR)
 |slen (x:AR)
 |convS (x:AR)
 |min (xs:List AR)
 |max (xs:List AR)
 |append (k:Nat) (e:TypeId) (x y:AR)
 |appendS (e:TypeId) (x y:AR)
 |mkif (t:Nat) (x:AR)
 |mkmap
 |mapset (m k:AR)
 |call (f:AR) (args:List AR)
structure AO where
 dst:Option Nat
 op:Ek
 guard:Option (Nat×Bool)
def o6:Value->Option AV
 | .bool b=>some (.bool b)
 | .int k n=>if k.min<=n/\n<=k.max then some (.int k n)else none
 | .string s=>if s.data.toList.length<=1000000 then some (.str s.data.toList)else none
 | .pointer none=>some .nilp
 | .map none=>some .nilm
 | .slice none 0 0=>some (.sl .nilT [])
 | .nilFunc=>some .nilf
 | .nilIface=>some .nili
 |_=>none
def X8:List Value->Option (List AV)
 | []=>some []
 |v::r=>match o6 v,X8 r with
  |some x,some xs=>some (x::xs)
  |_,_=>none
def Af6:Value->Option AV
 | .agg cs=>(X8 cs.toList).map .agg
 |v=>o6 v
def B9:Operand->Option AR
 | .tmp t=>some (.tmp t)
 | .const v=>(Af6 v).map .cst
 | .global _=>none
 | .func f=>some (.cst (.fn (.func f) [] []))
def Qv:List Operand->Option (List AR)
 | []=>some []
 |v::r=>match B9 v,Qv r with
  |some x,some xs=>some (x::xs)
  |_,_=>none
def Sz:Option Operand->Option (Option AR)
 |none=>some none
 |some x=>(B9 x).map some
def Zf(P:Program)(t:TypeId):Option Bool:=
 match P.underlying t with
 |some (.struct _)|some (.array _ _)=>some true
 |some _=>some false
 |none=>none
def N4(P:Program)(t:TypeId):Option (List AV):=
 match P.info? t with
 |some i=>match i.zero with
  |some v=>X8 v.cells.toList
  |none=>none
 |none=>none
def jw(P:Program)(t:TypeId)(y:Operand):Option NK:=
 match P.underlying t,y with
 |some (.slice _),.const (.slice none 0 0)=>some .sl
 |some (.pointer _),.const (.pointer none)=>some .pt
 |some (.func _ _ _),.const .nilFunc=>some .fn
 |some (.interface _),.const .nilIface=>some .ifc
 |_,_=>none
def Aur(P:Program)(t:TypeId):Bool:=match P.underlying t with |some .bool=>true|_=>false
def gv(P:Program)(fs:Array Field):List (Nat×Operand)->Option (List (Nat×Nat×AR))
 | []=>some []
 |(i,x)::r=>match fs[i]?,B9 x,gv P fs r with
  |some f,some y,some ys=>match P.info? f.type with
   |some inf=>some ((f.offset,inf.size,y)::ys)
   |none=>none
  |_,_,_=>none
def gj:List (Nat×Operand)->Option (List (Nat×AR))
 | []=>some []
 |(i,x)::r=>match B9 x,gj r with
  |some y,some ys=>some ((i,y)::ys)
  |_,_=>none
def Ac0(P:Program)(fs:Array Field):Bool:=fs.all fun f=>(P.info? f.type).isSome
def sd(P:Program)(c:Call):Option Ek:=
 match c.callee with
 | .value f=>match B9 f,Qv c.args.toList with
   |some f,some xs=>some (.call f xs)
   |_,_=>none
 | .invoke _ _=>none
 | .builtin b=>
   match b,c.args.toList,c.argTypes.toList with
   | .len,[x],t::_=>match P.underlying t with
     |some .string=>(B9 x).map .slen
     |some (.slice _)=>(B9 x).map .len
     |_=>none
   | .min,xs,_=>(Qv xs).map .min
   | .max,xs,_=>(Qv xs).map .max
   | .append,[x,y],[t,u]=>match P.underlying t,P.underlying u,B9 x,B9 y with
     |some (.slice e),some (.slice _),some x,some y=>match P.info? e,N4 P e with
      |some i,some z=>if 0<i.size/\z.length=i.size/\i.bytes<=1000 then some (.append i.size e x y)else none
      |_,_=>none
     |some (.slice e),some .string,some x,some y=>match P.info? e,N4 P e with
      |some i,some z=>if i.size=1/\z.length=1/\i.bytes<=1000 then some (.appendS e x y)else none
      |_,_=>none
     |_,_,_,_=>none
   |_,_,_=>none
def sf(P:Program)(t:TypeId)(l c:Operand):Option Ek:=
 match l,c with
 | .const (.int .i64 n),.const (.int .i64 m)=>match P.underlying t with
   |some (.slice e)=>match P.info? e,N4 P e with
    |some i,some z=>if 0<i.size/\z.length=i.size/\0<n/\n<=1000/\m=n/\i.bytes<=1000 then some (.makeSl i.size z n.toNat)else none
    |_,_=>none
   |_=>none
 |_,_=>none
def uu(P:Program)(t:TypeId):Bool:=match P.underlying t with
 |some (.map k _)=>(match P.underlying k with |some (.int .i64)=>true|_=>false)
 |_=>false
def pairT(P:Program)(t:TypeId):Bool:=match N4 P t with |some [.nilp,.sl .nilT []]=>true|_=>false
def Vm(P:Program)(o:Op):Option Ek:=
 match o with
 | .move x | .assign x=>(B9 x).map .mov
 | .pick c a b=>match B9 c,B9 a,B9 b with
   |some c,some a,some b=>some (.pick c a b)
   |_,_,_=>none
 | .alloc t=>(N4 P t).map .alloc
 | .box t x=>if pairT P t=true then(B9 x).map (.boxT t)else(B9 x).map .box
 | .build t parts=>match P.underlying t,N4 P t with
   |some (.struct fs),some z=>if Ac0 P fs then(gv P fs parts.toList).map (.build z)else none
   |_,_=>none
 | .buildSlice t len parts=>match P.underlying t with
   |some (.slice e)=>match P.info? e,N4 P e,gj parts.toList with
    |some i,some z,some ps=>if 0<i.size/\z.length=i.size/\len*i.size<=10000/\0<len then some (.buildSl i.size z len ps)else if len=0/\parts.toList=[]then some .emptySl else none
    |_,_,_=>none
   |_=>none
 | .load t x=>match Zf P t,P.info? t,B9 x with
   |some ag,some i,some x=>if 0<i.size/\(ag=true\/i.size=1)then some (.load ag i.size x)else none
   |_,_,_=>none
 | .store t a x=>match P.info? t,B9 a,B9 x with
   |some i,some a,some x=>if 0<i.size then some (.store i.size a x)else none
   |_,_,_=>none
 | .nilCheck x=>(B9 x).map .nilck
 | .binOp op t x y _=>
   if op= .eql\/op= .neq then
    match jw P t y with
    |some c=>(B9 x).map (.binNil c (op= .neq))
    |none=>
     if Aur P t=true then match B9 x,B9 y with
      |some x,some y=>some (.binB (op= .neq) x y)
      |_,_=>none
     else match B9 x,B9 y with
      |some x,some y=>some (.bin op x y)
      |_,_=>none
   else match B9 x,B9 y with
    |some x,some y=>some (.bin op x y)
    |_,_=>none
 | .unOp op _ x=>(B9 x).map (.un op)
 | .convert s d x=>match P.underlying s,P.underlying d,B9 x with
   |some (.int _),some (.int k),some x=>some (.convInt k x)
   |some .string,some .string,some x=>some (.convS x)
   |some .string,some (.slice e),some x=>match P.underlying e with
    |some (.int .u8)=>some (.convSB x)
    |_=>none
   |_,_,_=>none
 | .makeSlice t l c=>sf P t l c
 | .makeMap t r=>match r with
   |none=>if uu P t=true then some .mkmap else none
   |some _=>none
 | .mapUpdate t m k _=>if uu P t=true then match B9 m,B9 k with
   |some m,some k=>some (.mapset m k)
   |_,_=>none
   else none
 | .makeFunc f first cap=>match Qv first.toList,Qv cap.toList with
   |some a,some b=>some (.mkfn f a b)
   |_,_=>none
 | .slice t x lo hi mx=>match P.underlying t,B9 x,Sz lo,Sz hi,Sz mx with
   |some (.slice e),some x,some lo,some hi,some mx=>match P.info? e with
    |some i=>some (.slice i.size x lo hi mx)
    |none=>none
   |some .string,some x,some lo,some hi,some none=>some (.sslice x lo hi)
   |_,_,_,_,_=>none
 | .fieldAddr s x f=>match P.underlying s,B9 x with
   |some (.struct fs),some x=>match fs[f]? with
    |some fd=>match P.info? fd.type with
     |some i=>if 0<i.size then some (.faddr fd.offset x)else none
     |none=>none
    |none=>none
   |_,_=>none
 | .indexAddr t x i=>match P.underlying t,B9 x,B9 i with
   |some (.slice e),some x,some i=>match P.info? e with
    |some inf=>if 0<inf.size then some (.iaddr inf.size x i)else none
    |none=>none
   |_,_,_=>none
 | .index t x i=>match P.underlying t,B9 x,B9 i with
   |some .string,some x,some i=>some (.sidx x i)
   |_,_,_=>none
 | .extract x i=>(B9 x).map fun x=>.extract x i
 | .field s x f=>match P.underlying s,B9 x with
   |some (.struct fs),some x=>match fs[f]? with
    |some fd=>match Zf P fd.type,P.info? fd.type with
     |some ag,some i=>if 0<i.size/\(ag=true\/i.size=1)then some (.fld ag fd.offset i.size x)else none
     |_,_=>none
    |none=>none
   |_,_=>none
 | .makeInterface t x=>match P.underlying t with
   |some (.interface _)|none=>none
   |some _=>(B9 x).map (.mkif t)
 | .call c=>sd P c
 |_=>none
def AV.undef:AV:=.tup []
def Bh(t:List AV):AR->AV
 | .tmp i=>t.getD i .undef
 | .cst v=>v
def AV.cells:AV->List AV
 | .agg cs=>cs
 |v=>[v]
def Wb(cs:List AV)(off:Nat)(xs:List AV):List AV:=cs.take off++xs++cs.drop (off+xs.length)
def aa(cs:List AV):List (Nat×Nat×AV)->Option (List AV)
 | []=>some cs
 |(off,size,v)::r=>if v.cells.length=size/\off+size<=cs.length then aa (Wb cs off v.cells) r else none
def Dx(k:Nat)(rows:List (List AV)):List (Nat×AV)->Option (List (List AV))
 | []=>some rows
 |(i,v)::r=>if v.cells.length=k/\i<rows.length/\v.cells.all AV.isCell=true then Dx k (rows.set i v.cells) r else none
def Ni(ag:Bool)(n:Nat)(cs:List AV):Option AV:=
 if n<=cs.length then(if ag then some (.agg (cs.take n))else match cs with |v::_=>some v | []=>none)else none
def ut(op:BinOp)(k:IntKind)(a b:Int):Option AV:=
 match op with
 | .add=>some (.int k (k.wrap (a+b)))
 | .sub=>some (.int k (k.wrap (a-b)))
 | .mul=>some (.int k (k.wrap (a*b)))
 | .eql=>some (.bool (a==b))
 | .neq=>some (.bool (a != b))
 | .lss=>some (.bool (decide (a<b)))
 | .leq=>some (.bool (decide (a<=b)))
 | .gtr=>some (.bool (decide (a>b)))
 | .geq=>some (.bool (decide (a>=b)))
 | .quo=>if b=0 then none else some (.int k (k.wrap (a.tdiv b)))
 | .rem=>if b=0 then none else some (.int k (a.tmod b))
 | .and=>some (.int k (k.wrap (BitVec.ofInt k.bits a &&& BitVec.ofInt k.bits b).toNat))
 | .or=>some (.int k (k.wrap (BitVec.ofInt k.bits a ||| BitVec.ofInt k.bits b).toNat))
 | .xor=>some (.int k (k.wrap (BitVec.ofInt k.bits a ^^^ BitVec.ofInt k.bits b).toNat))
 |_=>none
def xf(op:BinOp)(a b:List UInt8):Option AV:=
 match op with
 | .add=>if a.length+b.length<=A1 then some (.str (a++b))else none
 | .eql=>some (.bool (a==b))
 | .neq=>some (.bool (!(a==b)))
 | .lss=>some (.bool (Op.bytesLess a b))
 | .leq=>some (.bool (Op.bytesLess a b||a==b))
 | .gtr=>some (.bool (!(Op.bytesLess a b||a==b)))
 | .geq=>some (.bool (!Op.bytesLess a b))
 |_=>none
def Aas(op:BinOp):AV->AV->Option AV
 | .int k a,.int k' b=>match op with
   | .shl=>if 0<=b then some (.int k (k.wrap (a*2^(min b.toNat k.bits))))else none
   | .shr=>if 0<=b then some (.int k (a.fdiv (2^(min b.toNat k.bits))))else none
   |_=>if k=k' then ut op k a b else none
 | .str a,.str b=>xf op a b
 |_,_=>none
def Lp:NK->AV->Option Bool
 | .pt,.nilp=>some true
 | .pt,.ptr _ _=>some false
 | .pt,.eptr _=>some false
 | .fn,.nilf=>some true
 | .fn,.fn _ _ _=>some false
 | .ifc,.nili=>some true
 | .ifc,.iface _ _=>some false
 | .sl,.sl tok els=>match els with
   |_::_=>some false
   | []=>match tok with
     | .nilT=>some true
     | .lazy _=>some true
     | .nn=>some false
     |_=>none
 |_,_=>none
def Pe(d:Int):Option AV->Option Int
 |none=>some d
 |some (.int _ n)=>some n
 |_=>none
def U8(tok:Dh)(n:Nat)(l h:Nat):Option Nat->Dh
 |some m=>if m=h then .tight else .none
 |none=>if l=0/\h=n then tok else if h=n/\tok= .tight then .tight else .none
def asl(tok:Dh)(els:List (List AV))(lo hi mx:Option AV):Option AV:=
 match Pe 0 lo,Pe els.length hi,mx with
 |some l,some h,none=>if 0<=l/\l<=h/\h<=els.length then some (.sl (U8 tok els.length l.toNat h.toNat none) ((els.take h.toNat).drop l.toNat))else none
 |some l,some h,some (.int _ m)=>if hi.isSome/\0<=l/\l<=h/\h<=m/\m<=els.length then some (.sl (U8 tok els.length l.toNat h.toNat (some m.toNat)) ((els.take h.toNat).drop l.toNat))else none
 |_,_,_=>none
def Uz(k:IntKind)(a:Int):List AV->Option AV
 | []=>some (.int k a)
 | .int k' b::r=>if k=k' then Uz k (if b<a then b else a) r else none
 |_=>none
def Xx:List AV->Option AV
 | .int k a::r=>Uz k a r
 |_=>none
def Xw(k:IntKind)(a:Int):List AV->Option AV
 | []=>some (.int k a)
 | .int k' b::r=>if k=k' then Xw k (if b>a then b else a) r else none
 |_=>none
def cn:List AV->Option AV
 | .int k a::r=>Xw k a r
 |_=>none
def D3(k:Nat)(els:List (List AV)):Bool:=match els with | []=>true|r::_=>r.length==k
def Id(k:Nat)(e:TypeId)(tok:Dh)(els:List (List AV))(H:List HB):List (List AV)->Option (AV×List HB)
 | []=>some (.sl tok els,H)
 |y::ys=>some (.sl (.own H.length) (els++y::ys),H++[.tok (els.length+(ys.length+1)) k e])
def Ey(k:Nat)(e:TypeId)(tok:Dh)(els ys:List (List AV))(H:List HB):Option (AV×List HB):=
 if els.length+ys.length<=A1/\D3 k els=true/\D3 k ys=true then
  match tok with
  | .own t=>match H[t]? with
    |some (.tok n k' e')=>if n=els.length/\k'=k then some (.sl (.own t) (els++ys),H.set t (.tok (n+ys.length) k (if e'=e then e else 0)))else none
    |_=>none
  | .tight | .nilT=>Id k e tok els H ys
  | .lazy t=>match ys with
    | []=>some (.sl (.lazy t) els,H)
    |_::_=>match H[t]? with
     |some (.mp ks)=>if ks=Kj then some (.sl (.own t) (els++ys),H.set t (.tok (els.length+ys.length) k e))else none
     |_=>none
  |_=>none
 else none
def T0(n:Nat)(ks:List Nat):List Nat:=if n∈ks then ks else ks++[n]
def B4(op:Ek)(ρ:AR->AV)(H:List HB):Option (AV×List HB):=
 match op with
 | .mov x=>some (ρ x,H)
 | .pick c a b=>match ρ c with
   | .bool c=>some (if c then ρ a else ρ b,H)
   |_=>none
 | .alloc z=>some (.ptr H.length 0,H++[.var z])
 | .box x=>some (.ptr H.length 0,H++[.var (ρ x).cells])
 | .boxT e x=>some (.ptr H.length 0,H++[.tvar e (ρ x).cells])
 | .build z ps=>match aa z (ps.map fun p=>(p.1,p.2.1,ρ p.2.2))with
   |some cs=>some (.agg cs,H)
   |none=>none
 | .buildSl k z len ps=>match Dx k (List.replicate len z) (ps.map fun p=>(p.1,ρ p.2))with
   |some rows=>some (.sl .tight rows,H)
   |none=>none
 | .emptySl=>some (.sl .tight [],H)
 | .makeSl _ z n=>some (.sl .tight (List.replicate n z),H)
 | .convSB x=>match ρ x with
   | .str s=>some (.sl .none (s.map fun c=>[.int .u8 c.toNat]),H)
   |_=>none
 | .load ag n x=>match ρ x with
   | .ptr b off=>match H[b]? with
     |some (.var cs)=>(Ni ag n (cs.drop off)).map (·,H)
     |some (.tvar _ cs)=>(Ni ag n (cs.drop off)).map (·,H)
     |_=>none
   | .eptr cs=>(Ni ag n cs).map (·,H)
   |_=>none
 | .store n a x=>match ρ a with
   | .ptr b off=>match H[b]? with
     |some (.var cs)=>if(ρ x).cells.length=n/\off+n<=cs.length/\(ρ x).cells.all AV.isCell=true then some (.undef,H.set b (.var (Wb cs off (ρ x).cells)))else none
     |some (.tvar e cs)=>if(ρ x).cells.length=n/\off+n<=cs.length/\(ρ x).cells.all AV.isCell=true then some (.undef,H.set b (.tvar e (Wb cs off (ρ x).cells)))else none
     |_=>none
   |_=>none
 | .nilck x=>match ρ x with
   | .ptr b off=>some (.ptr b off,H)
   | .eptr cs=>some (.eptr cs,H)
   | .fn (.func f) a b=>some (.fn (.func f) a b,H)
   |_=>none
 | .bin op x y=>(Aas op (ρ x) (ρ y)).map (·,H)
 | .binB neg x y=>match ρ x,ρ y with
   | .bool a,.bool b=>some (.bool ((a==b) != neg),H)
   |_,_=>none
 | .binNil c neg x=>(Lp c (ρ x)).map fun b=>(.bool (b != neg),H)
 | .un op x=>match op,ρ x with
   | .not,.bool b=>some (.bool (!b),H)
   | .neg,.int k n=>some (.int k (k.wrap (0-n)),H)
   |_,_=>none
 | .convInt k x=>match ρ x with
   | .int _ n=>some (.int k (k.wrap n),H)
   |_=>none
 | .mkfn f a b=>some (.fn f (a.map ρ) (b.map ρ),H)
 | .slice k x lo hi mx=>match ρ x with
   | .sl tok els=>if D3 k els then(asl tok els (lo.map ρ) (hi.map ρ) (mx.map ρ)).map (·,H)else none
   |_=>none
 | .sslice x lo hi=>match ρ x with
   | .str s=>match Pe 0 (lo.map ρ),Pe s.length (hi.map ρ)with
     |some l,some h=>if 0<=l/\l<=h/\h<=s.length then some (.str ((s.take h.toNat).drop l.toNat),H)else none
     |_,_=>none
   |_=>none
 | .faddr off x=>match ρ x with
   | .ptr b o=>some (.ptr b (o+off),H)
   | .eptr cs=>some (.eptr (cs.drop off),H)
   |_=>none
 | .iaddr k x i=>match ρ x,ρ i with
   | .sl _ els,.int _ n=>if 0<=n then match els[n.toNat]? with
    |some row=>if row.length=k then some (.eptr row,H)else none
    |none=>none
    else none
   | .vsl b m,.int _ n=>if 0<=n/\n<m then some (.ptr b (n.toNat*k),H)else none
   |_,_=>none
 | .sidx x i=>match ρ x,ρ i with
   | .str s,.int _ n=>if 0<=n then match s[n.toNat]? with
    |some c=>some (.int .u8 c.toNat,H)
    |none=>none
    else none
   |_,_=>none
 | .extract x i=>match ρ x with
   | .tup vs=>(vs[i]?).map (·,H)
   |_=>none
 | .fld ag off n x=>match ρ x with
   | .agg cs=>(Ni ag n (cs.drop off)).map (·,H)
   |_=>none
 | .len x=>match ρ x with
   | .sl _ els=>some (.int .i64 els.length,H)
   | .vsl _ m=>some (.int .i64 m,H)
   |_=>none
 | .slen x=>match ρ x with
   | .str s=>some (.int .i64 s.length,H)
   |_=>none
 | .convS x=>match ρ x with
   | .str s=>some (.str s,H)
   |_=>none
 | .min xs=>(Xx (xs.map ρ)).map (·,H)
 | .max xs=>(cn (xs.map ρ)).map (·,H)
 | .append k e x y=>match ρ x,ρ y with
   | .sl tok els,.sl _ ys=>Ey k e tok els ys H
   |_,_=>none
 | .appendS e x y=>match ρ x,ρ y with
   | .sl tok els,.str s=>Ey 1 e tok els (s.map fun c=>[.int .u8 c.toNat]) H
   |_,_=>none
 | .mkif t x=>some (.iface t (ρ x),H)
 | .mkmap=>some (.mapv H.length,H++[.mp []])
 | .mapset m k=>match ρ m,ρ k with
   | .mapv b,.int .i64 n=>match H[b]? with
     |some (.mp ks)=>if 0<=n/\n<Pa then some (.undef,H.set b (.mp (T0 n.toNat ks)))else none
     |_=>none
   |_,_=>none
 | .call _ _=>none
abbrev B8:=List AO
section
section
variable {F:Addr->Prop} {g:Gh} {w:World}
def H5:∀{xs:List AV} {vs:List Value},RL F g w xs vs->xs.length=vs.length
 | [],vs,h=>by simp only[RL]at h;simp[h]
 |x::xs,vs,h=>by
  simp only[RL]at h;obtain⟨v,r,rfl,_,h⟩:=h;simp[H5 h]
def Vg:∀{xs:List AV} {vs:List Value},RL F g w xs vs->∀(i:Nat) (x:AV),xs[i]? =some x->∃v,vs[i]? =some v/\R F g w x v
 | [],_,_,i,x,hx=>by simp at hx
 |y::ys,vs,h,i,x,hx=>by
  simp only[RL]at h;obtain⟨v,r,rfl,h1,h2⟩:=h
  cases i with
  |zero=>simp at hx;subst hx;exact⟨v,rfl,h1⟩
  |succ i=>simp at hx;simpa using Vg h2 i x hx
def Ld:∀{xs ys:List AV} {vs us:List Value},RL F g w xs vs->RL F g w ys us->RL F g w (xs++ys) (vs++us)
 | [],_,vs,us,h,h'=>by simp only[RL]at h;subst h;simpa using h'
 |x::xs,ys,vs,us,h,h'=>by
  simp only[RL]at h;obtain⟨v,r,rfl,h1,h2⟩:=h;simp only[Gb,RL];exact⟨v,r++us,rfl,h1,Ld h2 h'⟩
def qq:∀{xs:List AV} {vs:List Value},RL F g w xs vs->∀n,RL F g w (xs.take n) (vs.take n)
 | [],vs,h,n=>by simp only[RL]at h;subst h;simp[RL]
 |x::xs,vs,h,n=>by
  simp only[RL]at h;obtain⟨v,r,rfl,h1,h2⟩:=h
  cases n with
  |zero=>simp[RL]
  |succ n=>simp only[Yf,RL]; exact⟨v,_,rfl,h1,qq h2 n⟩
def Zz:∀{xs:List AV} {vs:List Value},RL F g w xs vs->∀n,RL F g w (xs.drop n) (vs.drop n)
 | [],vs,h,n=>by simp only[RL]at h;subst h;simp[RL]
 |x::xs,vs,h,n=>by
  cases n with
  |zero=>simpa using h
  |succ n=>
   simp only[RL]at h;obtain⟨v,r,rfl,h1,h2⟩:=h;simpa using Zz h2 n
def Wq{x:AV}(h:R F g w x v):RL F g w [x] [v]:=by simp only[RL]; exact⟨v,[],rfl,h,rfl⟩
def Vh:∀{xs:List AV} {vs:List Value},RL F g w xs vs->∀{x:AV} {v:Value},R F g w x v->∀i,RL F g w (xs.set i x) (vs.set i v)
 | [],vs,h,_,_,_,i=>by simp only[RL]at h;subst h;simp[RL]
 |y::ys,vs,h,x,v,hx,i=>by
  simp only[RL]at h;obtain⟨u,r,rfl,h1,h2⟩:=h
  cases i with
  |zero=>simp only[Ahb,RL]; exact⟨v,r,rfl,hx,h2⟩
  |succ i=>simp only[y9,RL]; exact⟨u,_,rfl,h1,Vh h2 hx i⟩
def Wr{x:AV}{v:Value}(h:R F g w x v):∀n,RL F g w (List.replicate n x) (List.replicate n v)
 |0=>by simp[RL]
 |n+1=>by simp only[lq,RL]; exact⟨v,_,rfl,h,Wr h n⟩
def Hk:R F g w .undef undef:=by simp only[AV.undef,R,undef]; exact⟨#[],rfl,by simp[RL]⟩
def A1z{x:AV}(h:o6 v=some x):R F g w x v:=by
 unfold o6 at h;split at h
 . simp only[Ay]at h;subst h;simp[R]
 . split at h
   . simp only[Ay]at h;subst h;rename_i k n hk;simp only[R]; exact⟨trivial,hk⟩
   cases h
 . split at h
   . simp only[Ay]at h;subst h;rename_i s hl;simp only[R]; exact⟨Ab,Ps hl Di⟩
   cases h
 . simp only[Ay]at h;subst h;simp[R]
 . simp only[Ay]at h;subst h;simp[R]
 . simp only[Ay]at h;subst h;simp only[R]; exact⟨Ab,.inl ⟨trivial,trivial,Ab,Ab⟩⟩
 . simp only[Ay]at h;subst h;simp[R]
 . simp only[Ay]at h;subst h;simp[R]
 cases h
def o7:∀{vs:List Value} {xs:List AV},X8 vs=some xs->RL F g w xs vs
 | [],xs,h=>by simp only[X8,Ay]at h;subst h;simp[RL]
 |v::r,xs,h=>by
  simp only[X8]at h;split at h
  . rename_i x ys h1 h2;simp only[Ay]at h;subst h;simp only[RL]; exact⟨v,r,rfl,A1z h1,o7 h2⟩
  cases h
def Brm{x:AV}(h:Af6 v=some x):R F g w x v:=by
 unfold Af6 at h;split at h
 . rename_i cs;simp only[Ef]at h;obtain⟨xs,h,rfl⟩:=h;simp only[R]; exact⟨cs,rfl,o7 h⟩
 exact A1z h
def Tm(F:Addr->Prop)(g:Gh)(w:World)(t:List AV)(a:Act):Prop:=RL F g w t a.tmps.toList
def Ab5{t:Ao}{vs:Fm}(h:RL F g w t vs)(i:Nat):R F g w (t.getD i .undef) (vs.getD i undef):=by
 rcases E8 i t.length with hi|hi
 . obtain⟨v,h1,h2⟩:=Vg h i t[i] (by simp[hi]);rw[Jb,Il hi,Jb,h1];exact h2
 have:=H5 h;rw[Jb,Im hi,Jb,Im Aa];exact Hk
def E2{t:Ao}{a:Act}(h:Tm F g w t a){o:Operand}{x:AR}(hc:B9 o=some x):R F g w (Bh t x) (a.eval o):=by
 cases o with
 |tmp i=>
  simp only[B9,Ay]at hc;subst hc;have:=Ab5 h i
  simpa[Bh,Act.eval]using this
 |const v=>
  simp only[B9,Ef]at hc;obtain⟨y,hy,rfl⟩:=hc
  exact Brm hy
 |global _=>simp[B9]at hc
 |func f=>
  simp only[B9,Ay]at hc;subst hc;simp only[Bh,Act.eval,R]; exact⟨#[],#[],rfl,by simp[RL],by simp[RL]⟩
def fi{t:List AV}{a:Act}(h:Tm F g w t a):∀{os:List Operand} {xs:List AR},Qv os=some xs->RL F g w (xs.map (Bh t)) (os.map a.eval)
 | [],xs,hc=>by simp only[Qv,Ay]at hc;subst hc;simp[RL]
 |o::r,xs,hc=>by
  simp only[Qv]at hc;split at hc
  . rename_i x ys h1 h2;simp only[Ay]at hc;subst hc;simp only[F8,RL]; exact⟨_,_,rfl,E2 h h1,fi h h2⟩
  cases hc
def ma{x:AV}(h:R F g w x v):RL F g w x.cells v.cells.toList:=by
 cases x
 case val u=>
  have h':=h;simp only[R]at h';obtain⟨rfl,hu⟩:=h';cases v<;>first |exact Wq h|(simp[vq]at hu)
 case vsl b n=>
  have h':=h;simp only[R]at h';obtain⟨B,cap,h1,h2,rfl,_⟩:=h';exact Wq h
 all_goals simp only[AV.cells]
 all_goals first
  |(simp only[R]at h;obtain⟨a,rfl,h⟩:=h;simpa[Value.cells]using h;done)
  |skip
 all_goals
  have h':=h;simp only[R]at h'
  first
   |(obtain⟨_,⟨_,rfl,_⟩|⟨_,_,_,_,_,rfl,_⟩⟩:=h'<;>exact Wq h)
   |(subst h';exact Wq h)
   |(obtain⟨rfl,_⟩:=h';exact Wq h)
   |(obtain⟨B,h1,h2,rfl⟩:=h';exact Wq h)
   |(obtain⟨B,off,rfl,h2⟩:=h';exact Wq h)
   |(obtain⟨a1,a2,rfl,_⟩:=h';exact Wq h)
   |(obtain⟨u,rfl,_⟩:=h';exact Wq h)
end
def Ayx(w:World)(o:Obj)(a:Addr)(h:a.block<w.heap.size):World.cell? {w with heap:=w.heap.push o} a=w.cell? a:=by
 simp[World.cell?,Agp,Nat.ne_of_lt h]
def X1(w:World)(o:Obj)(b:Nat)(h:b<w.heap.size):(w.heap.push o)[b]? =w.heap[b]?:=by
 simp[Agp,Nat.ne_of_lt h]
def X2(w:World)(o:Obj):(w.heap.push o)[w.heap.size]? =some o:=Ab
def St.lt{F:Addr->Prop}{g:Gh}{H:Ai}{w:World}(hs:St F g H w)(h:g.blk b=some B):b<H.length:=by
 rcases E8 b H.length with hb|hb
 . exact hb
 rw[(hs.beyond b hb).1]at h;cases h
def D1{w:World}{o:Obj}(h:w.heap[B]? =some o):B<w.heap.size:=by
 rcases E8 B w.heap.size with hb|hb
 . exact hb
 rw[pr hb]at h;cases h
def St.blk_lt{F:Addr->Prop}{g:Gh}{H:Ai}{w:World}(hs:St F g H w)(h:g.blk b=some B):B<w.heap.size:=by
 have hb:=hs.lt h
 cases hx:H[b]? with
 |none=>simp at hx;omega
 |some x=>
  cases x with
  |var cs=>
   obtain⟨B',vs,e,h1,_,h3,_⟩:=hs.var b cs hx
   rw[h]at h1;cases h1;exact D1 h3
  |tvar e cs=>
   obtain⟨B',vs,h1,_,h3,_⟩:=hs.tvar b e cs hx
   rw[h]at h1;cases h1;exact D1 h3
  |tok n k ty=>
   obtain⟨B',cap,vs,e,fr,h1,_,h3,_⟩:=hs.tok b n k _ hx
   rw[h]at h1;cases h1;exact D1 h3
  |mp ks=>
   rcases hs.mp b _ hx with⟨_,h1,_⟩|⟨B',es,ck,h1,_,h3,_⟩
   . rw[h]at h1;cases h1
   rw[h]at h1;cases h1;exact D1 h3
def Ayz{F:Addr->Prop}{g:Gh}{H:Ai}{w:World}(hs:St F g H w){cs:Ao}{vs:Array Value}(hr:RL F g w cs vs.toList)(e:TypeId)(x:HB)(hx:x= .var cs\/x= .tvar e cs):
 ∃g',St F g' (H++[x]) {w with heap:=w.heap.push (.cells vs e)}/\Bn F g H w F g' (H++[x]) {w with heap:=w.heap.push (.cells vs e)}/\
  R F g' {w with heap:=w.heap.push (.cells vs e)} (.ptr H.length 0) (.pointer (some ⟨w.heap.size,0,none⟩)):=by
 let g':Gh:=⟨fun b=>if b=H.length then some w.heap.size else g.blk b,g.tk⟩
 have hK:Fi F g w F g' {w with heap:=w.heap.push (.cells vs e)}:=by
  refine⟨fun _ h=>h,fun a ha=>Ayx w _ a (hs.live a ha),⟨fun b B h1 h2=>?_,fun t m c h=>⟨m,c,h,Bm _,fun _=>⟨rfl,?_⟩⟩⟩⟩
  . have:=hs.lt h1;exact⟨by show(if b=H.length then _ else _)=_;rw[Ac Aa]; exact h1,h2⟩
  have:t≠H.length:=fun e=>by have:=(hs.beyond t Aa).2;rw[this]at h;cases h
  show(if t=H.length then _ else _)=_;rw[Ac this]
 refine⟨g',⟨fun a ha=>?_,fun b hb=>?_,fun b b' B h1 h2=>?_,fun b cs' hb=>?_,fun t n k ty ht=>?_,hs.spots,fun b e' cs' hb=>?_,fun b ks hb=>?_⟩,⟨fun _ h=>h,hK.keep,hK.gh,?_,fun B hB _=>X1 w _ B hB,fun a h=>.inl h,fun b B hb h=>?_,Ab,⟨rfl,rfl⟩⟩,?_⟩
 . have:=hs.live a ha;simp;omega
 . simp only[Po,qe]at hb;have:=hs.beyond b Aa;exact⟨by show(if b=H.length then _ else _)=_;rw[Ac Aa]; exact this.1,this.2⟩
 . have h1':(if b=H.length then some w.heap.size else g.blk b)=some B:=h1;have h2':(if b'=H.length then some w.heap.size else g.blk b')=some B:=h2;split at h1'<;>split at h2'
   . omega
   . simp only[Ay]at h1';have:=hs.blk_lt h2';omega
   . simp only[Ay]at h2';have:=hs.blk_lt h1';omega
   exact hs.inj b b' B h1' h2'
 . rcases E8 b H.length with hl|hl
   . rw[D5 hl]at hb;obtain⟨B,us,e',h1,h2,h3,h4,h5⟩:=hs.var b cs' hb;refine⟨B,us,e',?_,h2,(X1 w _ B (D1 h3)).trans h3,RL.mono hK _ _ h4,h5⟩;show(if b=H.length then _ else _)=_;rw[Ac Aa]; exact h1
   have D8:b=H.length:=by
    rcases E8 b (H.length+1)with h|h
    . omega
    rw[Im (by simpa using h)]at hb;cases hb
   subst D8;simp only[Hj (Bm _),Ahj,Tt,Ay]at hb
   obtain rfl:cs=cs':=by
    rcases hx with rfl|rfl
    . cases hb;rfl
    cases hb
   refine⟨w.heap.size,vs,e,?_,(hs.beyond _ (Bm _)).2,X2 w _,RL.mono hK _ _ hr,fun off h=>?_⟩
   . show(if H.length=H.length then _ else _)=_;rw[Ae rfl]
   have:=hs.live _ h;simp at this
 . rcases E8 t H.length with hl|hl
   . rw[D5 hl]at ht;obtain⟨B,cap,us,e',fr,h1,h2,h3,h4,h5,h6⟩:=hs.tok t n k _ ht;refine⟨B,cap,us,e',fr,?_,h2,(X1 w _ B (D1 h3)).trans h3,h4,h5,h6⟩;show(if t=H.length then _ else _)=_;rw[Ac Aa]; exact h1
   have D8:t=H.length:=by
    rcases E8 t (H.length+1)with h|h
    . omega
    rw[Im (by simpa using h)]at ht;cases ht
   subst D8;simp at ht;rcases hx with rfl|rfl<;>cases ht
 . rcases E8 b H.length with hl|hl
   . rw[D5 hl]at hb;obtain⟨B,us,h1,h2,h3,h4,h5⟩:=hs.tvar b e' cs' hb;refine⟨B,us,?_,h2,(X1 w _ B (D1 h3)).trans h3,RL.mono hK _ _ h4,h5⟩;show(if b=H.length then _ else _)=_;rw[Ac Aa]; exact h1
   have D8:b=H.length:=by
    rcases E8 b (H.length+1)with h|h
    . omega
    rw[Im (by simpa using h)]at hb;cases hb
   subst D8;simp only[Hj (Bm _),Ahj,Tt,Ay]at hb
   obtain⟨rfl,rfl⟩:e=e'/\cs=cs':=by
    rcases hx with rfl|rfl
    . cases hb
    cases hb;exact⟨rfl,rfl⟩
   refine⟨w.heap.size,vs,?_,(hs.beyond _ (Bm _)).2,X2 w _,RL.mono hK _ _ hr,fun off h=>?_⟩
   . show(if H.length=H.length then _ else _)=_;rw[Ae rfl]
   have:=hs.live _ h;simp at this
 . rcases E8 b H.length with hl|hl
   . rw[D5 hl]at hb;rcases hs.mp b _ hb with⟨h0,h1,h2⟩|⟨B,es,ck,h1,h2,h3,h4⟩
     . refine .inl ⟨h0,?_,h2⟩;show(if b=H.length then _ else _)=_;rw[Ac Aa]; exact h1
     refine .inr ⟨B,es,ck,?_,h2,(X1 w _ B (D1 h3)).trans h3,h4⟩;show(if b=H.length then _ else _)=_;rw[Ac Aa]; exact h1
   have D8:b=H.length:=by
    rcases E8 b (H.length+1)with h|h
    . omega
    rw[Im (by simpa using h)]at hb;cases hb
   subst D8;simp at hb;rcases hx with rfl|rfl<;>cases hb
 . simp
 . have h':(if b=H.length then some w.heap.size else g.blk b)=some B:=h;split at h'
   . simp only[Ay]at h';right;omega
   left;exact⟨hs.lt h',h'⟩
 simp only[R];refine⟨w.heap.size,?_,(hs.beyond _ (Bm _)).2,rfl⟩;show(if H.length=H.length then _ else _)=_;rw[Ae rfl]
def Ayy{F:Addr->Prop}{g:Gh}{H:Ai}{w:World}(hs:St F g H w){cs:Ao}{vs:Array Value}(hr:RL F g w cs vs.toList)(e:TypeId):
 ∃g',St F g' (H++[.var cs]) {w with heap:=w.heap.push (.cells vs e)}/\Bn F g H w F g' (H++[.var cs]) {w with heap:=w.heap.push (.cells vs e)}/\
  R F g' {w with heap:=w.heap.push (.cells vs e)} (.ptr H.length 0) (.pointer (some ⟨w.heap.size,0,none⟩)):=Ayz hs hr e _ (.inl rfl)
end
def Rl(vs:List Value)(off:Nat)(us:List Value):List Value:=vs.take off++us++vs.drop (off+us.length)
def Bkm{F:Addr->Prop}{g:Gh}{w:World}{x:AV}(h:R F g w x v)(hc:x.isCell=true):v.oneCell'=true:=by
 cases x<;>simp only[AV.isCell,Dp]at hc<;>simp only[R]at h
 case val u=>obtain⟨rfl,hu⟩:=h;cases v<;>first |rfl|(simp[vq]at hu)
 case vsl b n=>obtain⟨B,cap,h1,h2,rfl,_⟩:=h;rfl
 all_goals first
  |(obtain⟨_,⟨_,rfl,_⟩|⟨_,_,_,_,_,rfl,_⟩⟩:=h<;>rfl)
  |(subst h;rfl)
  |(obtain⟨rfl,_⟩:=h;rfl)
  |(obtain⟨B,h1,h2,rfl⟩:=h;rfl)
  |(obtain⟨B,off,rfl,h2⟩:=h;rfl)
  |(obtain⟨a1,a2,rfl,_⟩:=h;rfl)
  |(obtain⟨u,rfl,_⟩:=h;rfl)
def vw{F:Addr->Prop}{g:Gh}{w:World} :∀{xs:List AV} {vs:List Value},RL F g w xs vs->xs.all AV.isCell=true->vs.all Value.oneCell'=true
 | [],vs,h,_=>by simp only[RL]at h;subst h;rfl
 |x::xs,vs,h,hc=>by
  simp only[RL]at h;obtain⟨v,r,rfl,h1,h2⟩:=h;simp only[Er,Bb]at hc ⊢;exact⟨Bkm h1 hc.1,vw h2 hc.2⟩
def T4(B off i:Nat):(⟨B,off,none⟩:Addr).add i=⟨B,off+i,none⟩:=by
 unfold Addr.add;split
 . rename_i h;subst h;rfl
 rfl
def w9(P:Program)(B:Nat)(e:TypeId)(fr:Nat×Nat):∀(us:Fm) (vs:Fm) (off i:Nat) (w:World),w.heap[B]? =some (.cells vs.toArray e fr)->us.all Value.oneCell'=true->
 off+i+us.length<=vs.length->fr.2<=off+i->∃w',(storeCells ⟨B,off,none⟩ us i).run P w= .ok () w'/\w'.heap.size=w.heap.size/\w'.heap[B]? =some (.cells (Rl vs (off+i) us).toArray e fr)/\(∀ b,b≠B->w'.heap[b]? =w.heap[b]?)/\w'.os=w.os/\w'.output=w.output
 | [],vs,off,i,w,hb,_,_,_=>by
   refine⟨w,rfl,rfl,?_,fun _ _=>rfl,rfl,rfl⟩
   rw[hb]; simp[Rl]
 |u::us,vs,off,i,w,hb,hc,hl,hfr=>by
  simp only[Er,Bb,Gq]at hc hl;have Af:=D1 hb
  have Ih:w.cell? ⟨B,off+i,none⟩=some vs[off+i]:=by
   simp only[World.cell?,hb,Oz,Dp,Bq];simp
  have hfz:w.frozen? ⟨B,off+i,none⟩=false:=by
   simp only[World.frozen?,hb,li,Bj,Nat.not_lt]
   right;exact hfr
  let w1:World:=w.setCell ⟨B,off+i,none⟩ u
  have h1:w1.heap[B]? =some (.cells (vs.set (off+i) u).toArray e fr):=by
   show(w.heap.modify B _)[B]? =_;have hg:w.heap[B]= .cells vs.toArray e fr:=by simpa[xw Af]using hb
   rw[xw (by rw[Array.size_modify]; exact Af),Array.getElem_modify_self,hg];simp
  have h2:∀b,b≠B->w1.heap[b]? =w.heap[b]?:=by
   intro b Bg;show(w.heap.modify B _)[b]? =_;rw[xx];simp[Ib Bg]
  have h3:w1.heap.size=w.heap.size:=by show(w.heap.modify B _).size=_;simp
  obtain⟨w',e1,e2,e3,e4,e5⟩:=w9 P B e fr us (vs.set (off+i) u) off (i+1) w1 h1 hc.2 (by simp;omega) Aa;refine⟨w',?_,e2.trans h3,?_,fun b Bg=>(e4 b Bg).trans (h2 b Bg),e5⟩
  . simp only[storeCells,Sem.run_bind,T4];rw[run_store P w _ u .plain hc.1,Ih];simp only[hfz,Dp,Bq,Result.andThen_ok];exact e1
  rw[e3];congr 2;simp only[Rl];congr 1;rw[show off+(i+1)=off+i+1 by omega,A3v (by simp;omega)];simp only[Gq,Ow,A3s];rw[List.take_set_of_le (Bm _),List.drop_set_of_lt Aa];simp only[A3u];congr 3;congr 1;omega
def qp{F:Addr->Prop}{g:Gh}{w:World}{cs xs:Ao}{vs us:Fm}(h:RL F g w cs vs)(h':RL F g w xs us)(off:Nat):RL F g w (Wb cs off xs) (Rl vs off us):=by
 unfold Wb Rl;rw[H5 h'];exact Ld (Ld (qq h _) h') (Zz h _)
def Oa{w w':World}{a:Addr}(h:w'.heap[a.block]? =w.heap[a.block]?):w'.cell? a=w.cell? a:=by
 simp only[World.cell?,h]
def Ae0{F:Addr->Prop}{g:Gh}{H:Ai}{w w':World}(hs:St F g H w){cs cs':Ao}{vs':Array Value}{e:TypeId}{x0 y0:HB}(H9:(x0= .var cs/\y0= .var cs')\/(x0= .tvar e cs/\y0= .tvar e cs'))(hb:H[b]? =some x0)(hB:g.blk b=some B)
 (hr:RL F g w cs' vs'.toList) (hz:w'.heap.size=w.heap.size) (hn:w'.heap[B]? =some (.cells vs' e (0,0))) (ho:∀x,x≠B->w'.heap[x]? =w.heap[x]?) (Kb:w'.os=w.os/\w'.output=w.output):
 St F g (H.set b y0) w'/\Bn F g H w F g (H.set b y0) w':=by
 obtain⟨q2,q5⟩:g.tk b=none/\∀off,¬F ⟨B,off,none⟩:=by
  rcases H9 with⟨rfl,_⟩|⟨rfl,_⟩
  . obtain⟨B0,vs0,e0,q1,q2,q3,q4,q5⟩:=hs.var b cs hb;rw[hB]at q1;cases q1;exact⟨q2,q5⟩
  obtain⟨B0,vs0,q1,q2,q3,q4,q5⟩:=hs.tvar b e cs hb;rw[hB]at q1;cases q1;exact⟨q2,q5⟩
 have D8:=hs.lt hB
 have hFB:∀a,F a->a.block≠B:=by
  intro a ha e
  cases hx:a with
  |mk bl off spot=>
   subst hx;simp only at e;subst e
   exact absurd (hs.live _ ha) (by
    intro _
    cases spot with
    |none=>exact q5 off ha
    |some s=>exact hs.spots _ _ _ ha)
 have hK:Fi F g w F g w':=⟨fun _ h=>h,fun a ha=>Oa (ho _ (hFB a ha)),Gh.le_refl g⟩;refine⟨⟨fun a ha=>by rw[hz]; exact hs.live a ha,fun x hx=>hs.beyond x (by simpa using hx),hs.inj,fun x cx hx=>?_,fun t n k ty ht=>?_,hs.spots,fun x ex cx hx=>?_,fun x ks hx=>?_⟩,⟨fun _ h=>h,hK.keep,hK.gh,Aa,fun x hx Q7=>ho x (fun e=>Q7 b D8 (by rw[hB,e])),fun a h=>.inl h,fun x X hx h=>.inl ⟨by simpa using hx,h⟩,Ab,Kb⟩⟩
 . by_cases Ut:x=b
   . subst Ut;rw[Ks D8]at hx;simp only[Ay]at hx
     obtain rfl:cs'=cx:=by
      rcases H9 with⟨_,rfl⟩|⟨_,rfl⟩
      . cases hx;rfl
      cases hx
     exact⟨B,vs',e,hB,q2,hn,RL.mono hK _ _ hr,q5⟩
   rw[Ia (Ib Ut)]at hx;obtain⟨X,us,ex,h1,h2,h3,h4,h5⟩:=hs.var x cx hx;have:X≠B:=fun e=>Ut (hs.inj x b X h1 (by rw[hB,e]));exact⟨X,us,ex,h1,h2,(ho X this).trans h3,RL.mono hK _ _ h4,h5⟩
 . by_cases htb:t=b
   . subst htb;rw[Ks D8]at ht;simp only[Ay]at ht;rcases H9 with⟨_,rfl⟩|⟨_,rfl⟩<;>cases ht
   rw[Ia (Ib htb)]at ht;obtain⟨X,cap,us,ex,fr,h1,h2,h3,h4,h5,h6⟩:=hs.tok t n k _ ht;have:X≠B:=fun e=>htb (hs.inj t b X h1 (by rw[hB,e]));exact⟨X,cap,us,ex,fr,h1,h2,(ho X this).trans h3,h4,h5,h6⟩
 . by_cases Ut:x=b
   . subst Ut;rw[Ks D8]at hx;simp only[Ay]at hx
     obtain⟨rfl,rfl⟩:e=ex/\cs'=cx:=by
      rcases H9 with⟨_,rfl⟩|⟨_,rfl⟩
      . cases hx
      cases hx;exact⟨rfl,rfl⟩
     exact⟨B,vs',hB,q2,hn,RL.mono hK _ _ hr,q5⟩
   rw[Ia (Ib Ut)]at hx;obtain⟨X,us,h1,h2,h3,h4,h5⟩:=hs.tvar x ex cx hx;have:X≠B:=fun e=>Ut (hs.inj x b X h1 (by rw[hB,e]));exact⟨X,us,h1,h2,(ho X this).trans h3,RL.mono hK _ _ h4,h5⟩
 by_cases Ut:x=b
 . subst Ut;rw[Ks D8]at hx;simp only[Ay]at hx;rcases H9 with⟨_,rfl⟩|⟨_,rfl⟩<;>cases hx
 rw[Ia (Ib Ut)]at hx;rcases hs.mp x _ hx with q|⟨X,es,ck,h1,h2,h3,h4⟩
 . exact .inl q
 have:X≠B:=fun e=>Ut (hs.inj x b X h1 (by rw[hB,e]));exact .inr ⟨X,es,ck,h1,h2,(ho X this).trans h3,h4⟩
def Bnt{F:Addr->Prop}{g:Gh}{H:Ai}{w w':World}(hs:St F g H w){cs cs':Ao}{vs':Array Value}{e:TypeId}(hb:H[b]? =some (.var cs))(hB:g.blk b=some B)
 (hr:RL F g w cs' vs'.toList) (hz:w'.heap.size=w.heap.size) (hn:w'.heap[B]? =some (.cells vs' e (0,0))) (ho:∀x,x≠B->w'.heap[x]? =w.heap[x]?) (Kb:w'.os=w.os/\w'.output=w.output):
 St F g (H.set b (.var cs')) w'/\Bn F g H w F g (H.set b (.var cs')) w':=Ae0 hs (.inl ⟨rfl,rfl⟩) hb hB hr hz hn ho Kb
section
section
variable {F:Addr->Prop} {g:Gh} {w:World} {P:Program}
def Aah:∀{xs:List AV} {B off:Nat},RM F g w B off xs->∃vs:List Value,vs.length=xs.length/\RL F g w xs vs/\∀(j:Nat) (v:Value),vs[j]? =some v->w.cell? ⟨B,off+j,none⟩=some v/\F ⟨B,off+j,none⟩
 | [],B,off,_=>⟨[],rfl,by simp[RL],Ab⟩
 |x::xs,B,off,h=>by
  simp only[RM]at h;obtain⟨⟨_,v,h1,h2,h3⟩,h4⟩:=h;obtain⟨vs,e1,e2,e3⟩:=Aah h4;refine⟨v::vs,by simp[e1],by simp only[RL]; exact⟨v,vs,rfl,h3,e2⟩,fun j u hj=>?_⟩
  cases j with
  |zero=>simp at hj;subst hj;exact⟨h2,h1⟩
  |succ j=>
   simp at hj;have:=e3 j u hj;rwa [show off+1+j=off+(j+1) by omega]at this
def Ah0:∀{xs:List AV} {B off:Nat},RM F g w B off xs->∀n,RM F g w B (off+n) (xs.drop n)
 | [],_,_,_,n=>by simp[RM]
 |x::xs,B,off,h,n=>by
  cases n with
  |zero=>simpa using h
  |succ n=>
   simp only[RM]at h;have:=Ah0 h.2 n;simp only[List.drop_succ_cons];rwa [show off+1+n=off+(n+1) by omega]at this
def lw:∀{els:List (List AV)} {B off k:Nat},RE F g w B off k els->∀(i:Nat) (row:List AV),els[i]? =some row->row.length=k/\RM F g w B (off+i*k) row
 | [],_,_,_,_,i,row,h=>by simp at h
 |x::xs,B,off,k,h,i,row,hi=>by
  simp only[RE]at h;obtain⟨h1,h2,h3⟩:=h
  cases i with
  |zero=>simp at hi;subst hi;simpa using⟨h1,h2⟩
  |succ i=>
   simp at hi;have:=lw h3 i row hi;rwa [show off+k+i*k=off+(i+1)*k by rw[Pr]; omega]at this
def Ahp:∀{els:List (List AV)} {B off k:Nat},RE F g w B off k els->∀n,RE F g w B (off+n*k) k (els.drop n)
 | [],_,_,_,_,n=>by simp[RE]
 |x::xs,B,off,k,h,n=>by
  cases n with
  |zero=>simpa using h
  |succ n=>
   simp only[RE]at h;have:=Ahp h.2.2 n;simp only[List.drop_succ_cons];rwa [show off+k+n*k=off+(n+1)*k by rw[Pr]; omega]at this
def Ahv:∀{els:List (List AV)} {B off k:Nat},RE F g w B off k els->∀n,RE F g w B off k (els.take n)
 | [],_,_,_,_,n=>by simp[RE]
 |x::xs,B,off,k,h,n=>by
  cases n with
  |zero=>simp[RE]
  |succ n=>
   simp only[RE]at h;simp only[Yf,RE];exact⟨h.1,h.2.1,Ahv h.2.2 n⟩
def Fq{d:TypeDesc}(h:P.underlying t=some d):(underlying t).run P w= .ok d w:=by
 simp only[underlying,Sem.run_bind,run_program,Result.andThen_ok,h]; rfl
def xa{i:TypeInfo}(h:P.info? t=some i):(typeInfo t).run P w= .ok i w:=by
 simp only[typeInfo,Sem.run_bind,run_program,Result.andThen_ok,h]; rfl
def Pg{i:TypeInfo}(h:P.info? t=some i):(sizeOf t).run P w= .ok i.size w:=by
 simp only[sizeOf,Sem.run_bind,xa h,Result.andThen_ok]; rfl
def w7{b:Bool}(h:Zf P t=some b):(isAgg t).run P w= .ok b w:=by
 unfold Zf at h
 cases hu:P.underlying t with
 |none=>rw[hu]at h;cases h
 |some d=>
  rw[hu]at h;simp only[isAgg,Sem.run_bind,Fq hu,Result.andThen_ok];cases d<;>simp only[Ay]at h<;>subst h<;>rfl
def Cw(P:Program)(o:Oper)(a:Act)(F:Addr->Prop)(g:Gh)(H:List HB)(w:World)(v:AV)(H':List HB):Prop:=
 ∃r w' F' g',(execOp a.eval o).run P w= .ok r w'/\((∃ u,r= .value u/\R F' g' w' v u)\/(r= .skip/\v= .undef))/\St F' g' H' w'/\Bn F g H w F' g' H' w'
def Cw.pure{o:Oper}{a:Act}{H:Ai}{v:AV}{u:Value}(hs:St F g H w)(h:(execOp a.eval o).run P w= .ok (.value u) w)(hr:R F g w v u):Cw P o a F g H w v H:=
 ⟨_,w,F,g,h,.inl ⟨u,rfl,hr⟩,hs,Bn.refl _ _ _ _⟩
def dp(s:Sem Value)(u:Value)(w':World)(h:s.run P w= .ok u w'):(do pure (.value (<- s)):Sem Next).run P w= .ok (.value u) w':=by
 simp only[Sem.run_bind,h,Result.andThen_ok]; rfl
def run_u(s:Sem Unit)(w':World)(h:s.run P w= .ok () w'):(do s;pure .skip:Sem Next).run P w= .ok .skip w':=by
 simp only[Sem.run_bind,h,Result.andThen_ok]; rfl
def L6{k:IntKind}{n:Int}(h:R F g w (.int k n) v):v= .int k n/\k.has n:=by simpa only[R]using h
def Wt{b:Bool}(h:R F g w (.bool b) v):v= .bool b:=by simpa only[R]using h
def Wv{s:Bu}(h:R F g w (.str s) v):v= .string ⟨s.toArray⟩/\s.length<=A1:=by simpa only[R]using h
def Nm{off:Nat}(h:R F g w (.ptr b off) v):∃B,g.blk b=some B/\g.tk b=none/\v= .pointer (some ⟨B,off,none⟩):=by simpa only[R]using h
def qt{cs:Ao}(h:R F g w (.eptr cs) v):∃B off,v= .pointer (some ⟨B,off,none⟩)/\RM F g w B off cs:=by simpa only[R]using h
def Ah2{cs:Ao}(h:R F g w (.tup cs) v):∃a,v= .tuple a/\RL F g w cs a.toList:=by simpa only[R]using h
def L7{tok:Dh}{els:List Ao}(h:R F g w (.sl tok els) v):els.length<=A1/\((els=[]/\v= .slice none 0 0/\(∀ t,tok≠.own t)/\tok≠.nn)\/
 ∃B off sp cap k,v= .slice (some ⟨B,off,sp⟩) els.length cap/\els.length<=cap/\(0<k/\(els=[]\/sp=none))/\RE F g w B off k els/\RT g els.length ⟨B,off,sp⟩ cap tok):=by simpa only[R]using h
def fb{f:Fn}{a b:Ao}(h:R F g w (.fn f a b) v):∃a1 a2,v= .func f a1 a2/\RL F g w a a1.toList/\RL F g w b a2.toList:=by simpa only[R]using h
def po(k:IntKind)(n:Int):k.has (k.wrap n):=by
 unfold IntKind.has IntKind.min IntKind.max IntKind.wrap;cases k<;>simp[IntKind.signed,IntKind.bits]<;>(try split)<;>omega
def Afz{ag:Bool}{n:Nat}{cs:Ao}{v:AV}(h:Ni ag n cs=some v){vs:Fm}(hr:RL F g w cs vs):n<=cs.length/\
 (ag=true->R F g w v (.agg (vs.take n).toArray))/\(ag=false->∃u r,vs=u::r/\R F g w v u):=by
 unfold Ni at h;split at h
 . rename_i hn;refine⟨hn,fun e=>?_,fun e=>?_⟩
   . subst e;simp only[Bp,Ay]at h;subst h;simp only[R]; exact⟨_,rfl,by simpa using qq hr n⟩
   subst e;simp only[Dp,Bq]at h;split at h
   . rename_i x r;simp only[Ay]at h;subst h;simp only[RL]at hr;obtain⟨u,r',rfl,h1,_⟩:=hr;exact⟨u,r',rfl,h1⟩
   cases h
 cases h
def A0e{ag:Bool}{i:TypeInfo}(h1:Zf P t=some ag)(h2:P.info? t=some i){off:Nat}{vs:Fm}
 (hv:∀(j:Nat) (v:Value),vs[j]? =some v->w.cell? ⟨B,off+j,none⟩=some v):
 (ag=true->i.size<=vs.length->(loadVar t ⟨B,off,none⟩).run P w= .ok (.agg (vs.take i.size).toArray) w)/\
 (ag=false->∀u r,vs=u::r->(loadVar t ⟨B,off,none⟩).run P w= .ok u w):=by
 constructor
 . intro e hl;subst e;simp only[loadVar,Sem.run_bind,w7 h1,Result.andThen_ok,Bp,Pg h2]
   have:=run_loadCells_list (P:=P) w ⟨B,off,none⟩ (vs.take i.size) (fun j v hj=>by
    rw[T4];refine hv j v ?_;rw[yi]at hj;split at hj
    . exact hj
    cases hj)
   rw[eo,Ahi hl]at this;simp only[this,Result.andThen_ok]; rfl
 intro e u r hvs;subst e;subst hvs;have h0:=hv 0 u rfl;simp only[qj]at h0;simp only[loadVar,Sem.run_bind,w7 h1,Result.andThen_ok,Dp,Bq,run_load,h0]
def dn{o:Oper}{a:Act}{c:Call}{b:Builtin}{args:Array Value}(ho:o.op= .call c)(hb:c.callee= .builtin b)(ha:c.args.map a.eval=args){r:Next}{w w':World}
 (h:(builtin b c.argTypes o.type (c.args.map fun | .const _=>true|_=>false) args).run P w= .ok r w'):(execOp a.eval o).run P w= .ok r w':=by
 simp only[execOp,ho,resolve,hb,ha,invoke,Sem.run_bind,Sem.run_pure,Result.andThen_ok];exact h
def cg{n:Nat}(h:n<=A1):IntKind.i64.has (n:Int):=by
 unfold A1 at h;unfold IntKind.has IntKind.min IntKind.max IntKind.signed IntKind.bits;simp;omega
def Aax{c:Array Operand}{x:Operand}(h:c.toList=[x]):c= #[x]:=by apply L5;simpa using h
def Aaw{α:Type}{c:Array α}{x:α}{r:List α}(h:c.toList=x::r):c[0]? =some x:=by rw[<- Mm,h]; rfl
def A31{tok:Dh}{els:List Ao}(h:R F g w (.sl tok els) v):∃b c,v= .slice b els.length c:=by
 rcases(L7 h).2 with⟨rfl,r2,_⟩|⟨B,off,sp,cap,k',r2,_⟩
 . exact⟨_,_,r2⟩
 exact⟨_,_,r2⟩
def Boe(h:P.underlying ty=some .bool)(b b':Bool)(d:Nat):(Op.equalIn (d+1) ty (.bool b) (.bool b')).run P w= .ok (b==b') w:=by
 rw[Op.equalIn];simp only[Sem.run_bind,Fq h,Result.andThen_ok,Sem.run_pure]
def A0d(h:P.underlying ty=some .bool)(b b':Bool):(Op.equal ty (.bool b) (.bool b')).run P w= .ok (b==b') w:=
 Boe h b b' 9999
def Bof{c:NK}{n:Operand}(hk:jw P ty n=some c){x:AV}{b:Bool}(hr:R F g w x v)(hn:Lp c x=some b)(d:Nat)(a:Act):
 (Op.equalIn (d+1) ty v (a.eval n)).run P w= .ok b w:=by
 unfold jw at hk;split at hk
 . rename_i e hu;simp only[Ay]at hk;subst hk;cases x<;>simp only[Lp]at hn<;>try(cases hn;done)
   rename_i tok els;rw[Op.equalIn];simp only[Sem.run_bind,Fq hu,Result.andThen_ok,Act.eval];obtain⟨_,⟨rfl,rfl,h1,h2⟩|⟨B,off,sp,cap,k,rfl,_,_,_,h3⟩⟩:=L7 hr
   . simp only at hn;cases tok<;>simp only[Ay]at hn<;>first |(subst hn;rfl)|(exact absurd rfl h2)|(cases hn;done)
   cases els with
   |nil=>
    simp only at hn
    cases tok<;>simp only[Ay]at hn<;>first |(subst hn;rfl)|(exact h3.elim)|(cases hn;done)
   |cons r rs=>simp only[Ay]at hn;subst hn;rfl
 . rename_i e hu;simp only[Ay]at hk;subst hk;rw[Op.equalIn];simp only[Sem.run_bind,Fq hu,Result.andThen_ok,Act.eval];cases x<;>simp only[Lp]at hn<;>try(cases hn;done)
   . simp only[R]at hr;subst hr;simp only[Ay]at hn;subst hn;rfl
   . obtain⟨B,_,_,rfl⟩:=Nm hr;simp only[Ay]at hn;subst hn;rfl
   obtain⟨B,off,rfl,_⟩:=qt hr;simp only[Ay]at hn;subst hn;rfl
 . rename_i p q r hu;simp only[Ay]at hk;subst hk;rw[Op.equalIn];simp only[Sem.run_bind,Fq hu,Result.andThen_ok,Act.eval];cases x<;>simp only[Lp]at hn<;>try(cases hn;done)
   . obtain⟨a1,a2,rfl,_⟩:=fb hr;simp only[Ay]at hn;subst hn;rfl
   simp only[R]at hr;subst hr;simp only[Ay]at hn;subst hn;rfl
 . rename_i ms hu;simp only[Ay]at hk;subst hk;rw[Op.equalIn];simp only[Sem.run_bind,Fq hu,Result.andThen_ok,Act.eval];cases x<;>simp only[Lp]at hn<;>try(cases hn;done)
   . simp only[R]at hr;obtain⟨u,rfl,_⟩:=hr;simp only[Ay]at hn;subst hn;rfl
   simp only[R]at hr;subst hr;simp only[Ay]at hn;subst hn;rfl
 cases hk
def qm(n:Value):Prop:=n= .pointer none\/n= .slice none 0 0\/n= .nilFunc\/n= .nilIface
def Bb6{y:Operand}{c:NK}(h:jw P ty y=some c):∃n,y= .const n/\qm n:=by
 unfold jw at h;split at h
 . exact⟨_,rfl,.inr (.inl rfl)⟩
 . exact⟨_,rfl,.inl rfl⟩
 . exact⟨_,rfl,.inr (.inr (.inl rfl))⟩
 . exact⟨_,rfl,.inr (.inr (.inr rfl))⟩
 cases h
def A5a{n u:Value}(h:qm n):binOp .eql ty u n=(do pure (.bool (<- Op.equal ty u n))):=by
 rcases h with rfl|rfl|rfl|rfl<;>cases u<;>rfl
def A5b{n u:Value}(h:qm n):binOp .neq ty u n=(do pure (.bool (!(<- Op.equal ty u n)))):=by
 rcases h with rfl|rfl|rfl|rfl<;>cases u<;>rfl
def Bod{op:BinOp}{x:Operand}{n u:Value}{a:Act}(hop:op= .eql\/op= .neq)(h:qm n):(eqGuard op ty x (.const n) u (a.eval (.const n))).run P w= .ok () w:=by
 simp only[Act.eval];rcases hop with rfl|rfl<;>rcases h with rfl|rfl|rfl|rfl<;>cases u<;>simp[eqGuard]
end
end
