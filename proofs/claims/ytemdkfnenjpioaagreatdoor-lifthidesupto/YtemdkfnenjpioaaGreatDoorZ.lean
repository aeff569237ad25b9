/- The statement LiftHides, tied to the program's text: for all arguments of bulk at most 1048576 the call returns true, and the arguments read afterwards as they read before.
   Conditions: the bound on the arguments' bulk; the listed package-level variables hold at the start what the program's text lays (the card's tie is given). Nothing else is assumed.
   How: an abstract code for each function (checked against the translation by the kernel) runs on abstract values; each function's contract is proved over it, also where it panics; lift.caught recovers what its call throws; a packed module is one whose pack is itself; the samples of pilasterlaw35.awake are run. -/
import Derived.ChangeArms
import Derived.Test.YtemdkfnenjpioaaGreatDoorRows
import Derived.Test.YtemdkfnenjpioaaGreatDoorG37
import Derived.Test.YtemdkfnenjpioaaGreatDoorCards
import Derived.Test.YtemdkfnenjpioaaGreatDoorTie
import Derived.OpenShut
import Derived.WideKeyArgs
import Derived.Shelf.Vars
import Derived.Test.YtemdkfnenjpioaaGreatDoorG36
set_option linter.unusedSimpArgs false
set_option linter.unusedVariables false
set_option linter.unusedSectionVars false
set_option linter.all false
set_option maxHeartbeats 4000000
set_option maxRecDepth 10000
namespace Go.Proofs.YtemdkfnenjpioaaGreatDoor
open Go
open Rows (uptoBulk uptoBulkAll)
def FW (w:World):Addr→Prop:=fun a=>a.spot=none∧(w.cell? a).isSome=true
@[irreducible] def Eh:Nat:=1048576
theorem Og:Eh≤1048576:=by unfold Eh;exact Nat.le_refl _
def g00:Gh:=⟨fun _=>none,fun _=>none⟩
theorem Aja {α :Type} {P:Nat→α→Prop} : ∀(n:Nat),(∀ i,i < n→∃x,P i x)→∃l:List α,l.length=n∧∀(i:Nat) (h:i < l.length),P i l[i]
 | 0,_=>⟨[],rfl,fun i h=>absurd h (Nat.not_lt_zero i)⟩
 | n+1,h=>by
   obtain⟨l,h1,h2⟩:=Aja n fun i hi=>h i (by omega)
   obtain⟨x,hx⟩:=h n (by omega)
   refine⟨l++[x],by simp[h1],fun i hi=>?_⟩
   rw[List.getElem_append]
   split
   · exact h2 i _
   · have:i=n:=by simp at hi;omega
     subst this;simpa using hx
theorem Ai2 {α β :Type} {f: α→Option β} : ∀{l:List α} {r:List β},l.mapM f=some r→r.length=l.length∧∀(i:Nat) (x: α),l[i]? =some x→∃y,f x=some y∧r[i]? =some y
 | [],r,h=>by simp at h;subst h;simp
 | x :: l,r,h=>by
   simp only[List.mapM_cons,Option.bind_eq_bind,Option.pure_def,Option.bind_eq_some_iff,Option.some.injEq] at h
   obtain⟨y,h1,ys,h2,rfl⟩:=h
   obtain⟨e1,e2⟩:=Ai2 h2
   refine⟨by simp[e1],fun i z hz=>?_⟩
   cases i with
   | zero=>simp at hz;subst hz;exact⟨y,h1,rfl⟩
   | succ i=>simp at hz;simpa using e2 i z hz
section
variable {H:Type} {enc:TypeId × Value→H} {P:Program} {w:World} {base:Nat} {spare:Nat→Bool} {held:Bool}
theorem Amn (d:DataW H):1≤uptoBulk d:=by
 cases d with
 | lit l=>cases l<;>simp[uptoBulk]
 | nil=>simp[uptoBulk]
 | ptr d=>simp[uptoBulk]
 | slice elems spare=>simp[uptoBulk]
 | agg parts=>simp[uptoBulk]
 | iface t d=>simp[uptoBulk]
 | map entries=>simp[uptoBulk]
 | held h=>simp[uptoBulk]
theorem Ala {d:DataW H} {l:List (DataW H)} (h:d ∈ l):uptoBulk d≤uptoBulkAll l:=by
 induction l with
 | nil=>cases h
 | cons x r ih=>
   simp only[uptoBulkAll]
   cases List.mem_cons.1 h with
   | inl e=>subst e;omega
   | inr e=>have:=ih e;omega
theorem bulk_len (l:List (DataW H)):l.length≤uptoBulkAll l:=by
 induction l with
 | nil=>simp[uptoBulkAll]
 | cons x r ih=>have:=Amn x;simp only[uptoBulkAll,List.length_cons]; omega
theorem Pw {t:TypeId} {k:IntKind} {fuel:Nat} {cs:List Value} {d:DataW H} {ps:List MemPlace} (ht:P.underlying t=some (.int k)) (h:DataW.trod enc P w base spare held fuel t cs=some (d,ps)):
 ∃n,cs=[.int k n]∧R (FW w) g00 w (.int k n) (.int k n):=by
 cases fuel with
 | zero=>simp[DataW.trod] at h
 | succ n=>
   unfold DataW.trod at h
   rw[ht] at h
   split at h<;>simp_all
   simp only[R]
   refine⟨trivial,?_⟩
   have:=h.1.2
   simp only[Lit.wf,Bool.and_eq_true,decide_eq_true_eq] at this
   exact this
theorem Ut {t:TypeId} {fuel:Nat} {cs:List Value} {d:DataW H} {ps:List MemPlace} (ht:P.underlying t=some .string) (h:DataW.trod enc P w base spare held fuel t cs=some (d,ps)) (hb:uptoBulk d≤Eh):
 ∃(s:List UInt8) (v:Value),cs=[v]∧R (FW w) g00 w (.str s) v:=by
 cases fuel with
 | zero=>simp[DataW.trod] at h
 | succ n=>
   unfold DataW.trod at h
   rw[ht] at h
   split at h<;>simp_all
   rename_i s
   obtain⟨_,rfl,_⟩:=h
   refine⟨s.data.toList,?_⟩
   simp only[R]
   refine⟨by simp,?_⟩
   simp only[uptoBulk,Array.length_toList] at hb
   have:=Og
   simp only[A4,Array.length_toList]; omega
theorem RE_by {α :Type} {F:Addr→Prop} {g:Gh} (f: α→List AV) {k:Nat} (hlen: ∀x,(f x).length=k) (hcell: ∀x,(f x).all AV.isCell=true) {B:Nat} : ∀(l:List α) (off:Nat),
 (∀ (i:Nat) (h:i < l.length),∃cs,RL F g w (f l[i]) cs∧∀(j:Nat) (v:Value),cs[j]? =some v→w.cell? ⟨B,off+i * k+j,none⟩=some v∧F ⟨B,off+i * k+j,none⟩)→RE F g w B off k (l.map f)
 | [],_,_=>by simp[RE]
 | x :: l,off,h=>by
   simp only[List.map_cons,RE]
   refine⟨hlen x,?_,RE_by f hlen hcell l (off+k) fun i hi=>?_⟩
   · obtain⟨cs,h1,h2⟩:=h 0 (by simp)
     exact RM_of h1 (hcell x) (by simpa using h2)
   · obtain⟨cs,h1,h2⟩:=h (i+1) (by simp;omega)
     refine⟨cs,by simpa using h1,fun j v hv=>?_⟩
     have:=h2 j v hv
     rwa [show off+(i+1) * k+j=off+k+i * k+j by rw[Nat.add_mul]; omega] at this
theorem Nz {α :Type} {t e:TypeId} {k:Nat} (f: α→List AV) (hlen: ∀x,(f x).length=k) (hcell: ∀x,(f x).all AV.isCell=true) (ht:P.underlying t=some (.slice e)) (hk:P.cellsOf e=k) (h0:0 < k) {Hh: α→DataW H→Prop} {fuel:Nat} {cs:List Value} {d:DataW H} {ps:List MemPlace}
 (h:DataW.trod enc P w base spare held fuel t cs=some (d,ps)) (hb:uptoBulk d≤Eh) (hrec: ∀n,n < fuel→∀cs' d' p',DataW.trod enc P w base spare held n e cs'=some (d',p')→uptoBulk d'≤Eh→∃x,RL (FW w) g00 w (f x) cs'∧Hh x d'):
 ∃(v:Value) (l:List α),cs=[v]∧R (FW w) g00 w (.sl .none (l.map f)) v∧∃ds,l.length=ds.length∧uptoBulkAll ds < uptoBulk d∧∀(i:Nat) (hi:i < l.length) (hi':i < ds.length),Hh l[i] ds[i]:=by
 rcases DataW.trod_slice ht h with⟨rfl,hx⟩ | ⟨a,len,cap,elems,rest,n,rfl,rfl,hx,hbase,hl,_,hel,hget,_,_⟩
 · refine⟨_,[],rfl,?_,[],rfl,?_,fun i hi=>absurd hi (Nat.not_lt_zero i)⟩
   · simp[R]
   · have:=Amn d;simp only[uptoBulkAll]; omega
 · cases hx
   simp only[uptoBulk] at hb
   have hlen0:=bulk_len (elems.map (·.1))
   simp only[List.length_map] at hlen0
   have key: ∀i,i < len→∃x: α,(∃ cs',RL (FW w) g00 w (f x) cs'∧∀(j:Nat) (v:Value),cs'[j]? =some v→w.cell? ((a.add (i * k)).add j)=some v)∧∃y,elems[i]? =some y∧Hh x y.1:=by
    intro i hi
    have hg:=hget i hi
    rw[hk] at hg
    have hy:elems[i]? =some elems[i]:=List.getElem?_eq_getElem (by omega)
    rw[hy,Option.bind_eq_some_iff] at hg
    obtain⟨cs',c1,c2⟩:=hg
    have hbi:uptoBulk elems[i].1≤Eh:=by
     have:=Ala (d:=elems[i].1) (l:=elems.map (·.1)) (List.mem_map.2 ⟨_,List.getElem_mem _,rfl⟩)
     omega
    obtain⟨x,x1,x2⟩:=hrec n (by omega) cs' elems[i].1 elems[i].2 (by rw[c2]) hbi
    refine⟨x,⟨cs',x1,fun j v hv=>?_⟩,elems[i],hy,x2⟩
    unfold World.cells? at c1
    rw[if_pos (by unfold Addr.add;split<;>exact hbase)] at c1
    obtain⟨e1,e2⟩:=Ai2 c1
    have hj:j < k:=by
     have:=(List.getElem?_eq_some_iff.1 hv).1
     simp at e1;omega
    obtain⟨y,y1,y2⟩:=e2 j j (by simp[hj])
    rw[hv] at y2;cases y2
    exact y1
   obtain⟨l,l1,l2⟩:=Aja len key
   refine⟨_,l,rfl,?_,elems.map (·.1),by simp[l1,hel],by simp only[uptoBulk]; omega,fun i hi hi'=>?_⟩
   · simp only[R,List.length_map,l1]
     refine⟨by have:=Og;simp only[A4]; omega,.inr ?_⟩
     obtain⟨B,off,sp⟩:=a
     have hsp:l.map f=[]∨sp=none:=by
      cases l with
      | nil=>exact .inl rfl
      | cons x l=>
        right
        obtain⟨⟨cs',c1,c2⟩,_⟩:=l2 0 (by simp)
        have hpos:0 < cs'.length:=by rw[← Dh c1,hlen]; exact h0
        have:=c2 0 cs'[0] (List.getElem?_eq_getElem hpos)
        simp only[Nat.zero_mul,Addr.add,if_true] at this
        cases sp with
        | none=>rfl
        | some s=>unfold World.cell? at this;split at this<;>simp at this
     refine⟨B,off,sp,cap,k,rfl,hl,⟨h0,hsp⟩,?_,trivial⟩
     rcases hsp with he | rfl
     · rw[he]; simp[RE]
     refine RE_by f hlen hcell l off fun i hi=>?_
     obtain⟨⟨cs',c1,c2⟩,_⟩:=l2 i hi
     refine⟨cs',c1,fun j v hv=>?_⟩
     have:=c2 j v hv
     rw[Iv,Iv] at this
     exact⟨this,rfl,by rw[this]; rfl⟩
   · obtain⟨_,y,y1,y2⟩:=l2 i hi
     rw[List.getElem?_eq_getElem (by omega),Option.some.injEq] at y1
     subst y1
     simpa using y2
end
section
variable {H:Type} {enc:TypeId × Value→H} {w:World} {base:Nat} {spare:Nat→Bool} {held:Bool}
theorem R0:Tryz.prog.cellsOf 3=1:=by kernel_rfl
theorem Oy:Tryz.prog.cellsOf 9=1:=by kernel_rfl
theorem Ol:Tryz.prog.cellsOf 22=1:=by kernel_rfl
theorem Id:Tryz.prog.cellsOf 25=1:=by kernel_rfl
theorem Qu:Tryz.prog.cellsOf 26=1:=by kernel_rfl
theorem R8:Tryz.prog.cellsOf 23=1:=by kernel_rfl
theorem H9:Tryz.prog.cellsOf 28=6:=by kernel_rfl
theorem Z8:Tryz.prog.cellsOf 29=1:=by kernel_rfl
theorem J4:Tryz.prog.cellsOf 31=14:=by kernel_rfl
theorem cells_4:Tryz.prog.cellsOf 4=1:=by kernel_rfl
theorem cells_32:Tryz.prog.cellsOf 32=1:=by kernel_rfl
theorem Uz:Tryz.prog.cellsOf 34=18:=by kernel_rfl
theorem cells_36:Tryz.prog.cellsOf 36=35:=by kernel_rfl
theorem Nx:Tryz.prog.cellsOf 38=15:=by kernel_rfl
theorem Wq: ∀(fuel:Nat) (cs:List Value) (d:DataW H) (ps:List MemPlace),DataW.trod enc Tryz.prog w base spare held fuel 25 cs=some (d,ps)→uptoBulk d≤Eh→∃k:Kd,RL (FW w) g00 w (Ao k) cs∧True:=by
 intro fuel
 induction fuel using Nat.strongRecOn with
 | _ fuel ih=>
   intro cs d ps h hb
   obtain⟨xs,n,rfl,hx,hl,hxs,hf⟩:=DataW.trod_struct Tryz.underlying25 h
   cases hx
   have e0:=hf 0 _ rfl
   simp only[Id,H9,J4,Nx] at hl
   obtain⟨x0,rfl⟩: ∃x,xs=[x]:=by
    match xs,hxs with
    | [x],_=>exact⟨x,rfl⟩
   simp only[uptoBulk,List.map_cons,List.map_nil,uptoBulkAll] at hb
   obtain⟨v,l,h1,h2,_⟩:=Nz (Hh:=fun _ _=>True) Ao (by simp) (by simp) Tryz.underlying22 Id (by omega) (fuel:=n) (d:=x0.1) (ps:=x0.2) (cs:=cs) (by simpa[Ol,List.take_of_length_le (Nat.le_of_eq hl)] using e0) (by omega) fun m hm cs' d' p' hd hb'=>ih m (by omega) cs' d' p' hd hb'
   subst h1
   exact⟨.mk l,by rw[Al]; simp only[RL]; exact⟨v,[],rfl,h2,rfl⟩,trivial⟩
theorem Ame: ∀(l:List Cn) (ds:List (DataW H)),l.length=ds.length→(∀ (i:Nat) (hi:i < l.length) (hi':i < ds.length),Ap l[i]≤uptoBulk ds[i])→Bu l≤uptoBulkAll ds
 | [],ds,_,_=>by simp[Bu]
 | x :: l,[],h,_=>by simp at h
 | x :: l,d :: ds,h,hi=>by
   have h1:=hi 0 (by simp) (by simp)
   have h2:=Ame l ds (by simpa using h) fun i a b=>by
    have:=hi (i+1) (by simp;omega) (by simp;omega)
    simpa only[List.getElem_cons_succ] using this
   simp only[Bu,uptoBulkAll]
   simp only[List.getElem_cons_zero] at h1
   omega
theorem Aeq {fuel:Nat} {cs:List Value} {d:DataW H} {ps:List MemPlace} (h:DataW.trod enc Tryz.prog w base spare held fuel 26 cs=some (d,ps)) (hb:uptoBulk d≤Eh): ∃(v:Value) (l:List (List UInt8)),cs=[v]∧R (FW w) g00 w (.sl .none (Af l)) v:=by
 obtain⟨v,l,h1,h2,_⟩:=Nz (Hh:=fun _ _=>True) (fun s:List UInt8=>[AV.str s]) (by simp) (by simp[AV.isCell]) Tryz.underlying26 Oy (by omega) h hb fun m hm cs' d' p' hd hb'=>by
  obtain⟨s,v,rfl,hv⟩:=Ut Tryz.underlying9 hd hb'
  exact⟨s,by simp only[RL]; exact⟨v,[],rfl,hv,rfl⟩,trivial⟩
 exact⟨v,l,h1,h2⟩
theorem Wa {fuel:Nat} {cs:List Value} {d:DataW H} {ps:List MemPlace} (h:DataW.trod enc Tryz.prog w base spare held fuel 22 cs=some (d,ps)) (hb:uptoBulk d≤Eh): ∃(v:Value) (l:List Kd),cs=[v]∧R (FW w) g00 w (.sl .none (l.map Ao)) v:=by
 obtain⟨v,l,h1,h2,_⟩:=Nz (Hh:=fun _ _=>True) Ao (by simp) (by simp) Tryz.underlying22 Id (by omega) h hb fun m hm cs' d' p' hd hb'=>Wq m cs' d' p' hd hb'
 exact⟨v,l,h1,h2⟩
theorem list6 {α :Type} {l:List α} (h:l.length=6): ∃a b c d e f,l=[a,b,c,d,e,f]:=by
 match l,h with
 | [a,b,c,d,e,f],_=>exact⟨a,b,c,d,e,f,rfl⟩
theorem list9 {α :Type} {l:List α} (h:l.length=9): ∃a b c d e f g i j,l=[a,b,c,d,e,f,g,i,j]:=by
 match l,h with
 | [a,b,c,d,e,f,g,i,j],_=>exact⟨a,b,c,d,e,f,g,i,j,rfl⟩
theorem list14 {α :Type} {l:List α} (h:l.length=14): ∃a b c d e f g i j k m n o p,l=[a,b,c,d,e,f,g,i,j,k,m,n,o,p]:=by
 match l,h with
 | [a,b,c,d,e,f,g,i,j,k,m,n,o,p],_=>exact⟨a,b,c,d,e,f,g,i,j,k,m,n,o,p,rfl⟩
theorem Df {F:Addr→Prop} {g:Gh} {w:World} {x:AV} {xs:List AV} {v:Value} {vs:List Value} (h:R F g w x v) (h':RL F g w xs vs):RL F g w (x :: xs) (v :: vs):=by
 simp only[RL]; exact⟨v,vs,rfl,h,h'⟩
theorem RL_z {F:Addr→Prop} {g:Gh} {w:World} :RL F g w [] []:=by simp[RL]
theorem Adr {F:Addr→Prop} {g:Gh} {w:World} {x:AV} {v:Value} (h:RL F g w [x] [v]):R F g w x v:=by
 simp only[RL] at h
 obtain⟨_,_,e,h,_⟩:=h
 cases e;exact h
theorem Uh: ∀(fuel:Nat) (cs:List Value) (d:DataW H) (ps:List MemPlace),DataW.trod enc Tryz.prog w base spare held fuel 28 cs=some (d,ps)→uptoBulk d≤Eh→∃c:Cn,RL (FW w) g00 w (Ai c) cs∧Ap c≤uptoBulk d:=by
 intro fuel
 induction fuel using Nat.strongRecOn with
 | _ fuel ih=>
   intro cs d ps h hb
   obtain⟨xs,n,rfl,hx,hl,hxs,hf⟩:=DataW.trod_struct Tryz.underlying28 h
   cases hx
   have e0:=hf 0 _ rfl
   have e1:=hf 1 _ rfl
   have e2:=hf 2 _ rfl
   have e3:=hf 3 _ rfl
   have e4:=hf 4 _ rfl
   have e5:=hf 5 _ rfl
   simp only[Id,H9,J4,Nx] at hl
   obtain⟨x0,x1,x2,x3,x4,x5,rfl⟩:=list6 hxs
   obtain⟨c0,c1,c2,c3,c4,c5,rfl⟩:=list6 hl
   simp[R0,Oy,Ol,Id,Qu,R8,H9,Z8,J4,Nx] at e0 e1 e2 e3 e4 e5
   simp only[uptoBulk,List.map_cons,List.map_nil,uptoBulkAll] at hb
   obtain⟨i0,f0,r0⟩:=Pw Tryz.underlying3 (d:=x0.1) (ps:=x0.2) e0
   obtain⟨i1,f1,r1⟩:=Pw Tryz.underlying3 (d:=x1.1) (ps:=x1.2) e1
   obtain⟨s,v2,f2,r2⟩:=Ut Tryz.underlying9 (d:=x2.1) (ps:=x2.2) e2 (by omega)
   obtain⟨k,r3,_⟩:=Wq n [c3] x3.1 x3.2 e3 (by omega)
   obtain⟨v4,ns,f4,r4⟩:=Aeq (d:=x4.1) (ps:=x4.2) e4 (by omega)
   obtain⟨v5,l,f5,r5,ds,g1,g2,g3⟩:=Nz (Hh:=fun c d=>Ap c≤uptoBulk d) Ai (by simp) (by simp) Tryz.underlying23 H9 (by omega) (d:=x5.1) (ps:=x5.2) e5 (by omega) fun m hm cs' d' p' hd hb'=>ih m (by omega) cs' d' p' hd hb'
   cases f0;cases f1;cases f2;cases f4;cases f5
   refine⟨.mk i0 i1 s k ns l,?_,?_⟩
   · rw[Al] at r3
     rw[Ac]
     exact Df r0 (Df r1 (Df r2 (Df (Adr r3) (Df r4 (Df r5 RL_z)))))
   · have:=Ame l ds g1 g3
     simp only[Ap,List.map_cons,List.map_nil,uptoBulk,uptoBulkAll]
     omega
theorem sm_of: ∀(fuel:Nat) (cs:List Value) (d:DataW H) (ps:List MemPlace),DataW.trod enc Tryz.prog w base spare held fuel 31 cs=some (d,ps)→uptoBulk d≤Eh→∃s:Sm,RL (FW w) g00 w (B6 s) cs∧C1 s:=by
 intro fuel
 induction fuel using Nat.strongRecOn with
 | _ fuel ih=>
   intro cs d ps h hb
   obtain⟨xs,n,rfl,hx,hl,hxs,hf⟩:=DataW.trod_struct Tryz.underlying31 h
   cases hx
   have e0:=hf 0 _ rfl
   have e1:=hf 1 _ rfl
   have e2:=hf 2 _ rfl
   have e3:=hf 3 _ rfl
   have e4:=hf 4 _ rfl
   have e5:=hf 5 _ rfl
   have e6:=hf 6 _ rfl
   have e7:=hf 7 _ rfl
   have e8:=hf 8 _ rfl
   simp only[Id,H9,J4,Nx] at hl
   obtain⟨x0,x1,x2,x3,x4,x5,x6,x7,x8,rfl⟩:=list9 hxs
   obtain⟨c0,c1,c2,c3,c4,c5,c6,c7,c8,c9,c10,c11,c12,c13,rfl⟩:=list14 hl
   simp[R0,Oy,Ol,Id,Qu,R8,H9,Z8,J4,Nx] at e0 e1 e2 e3 e4 e5 e6 e7 e8
   simp only[uptoBulk,List.map_cons,List.map_nil,uptoBulkAll] at hb
   obtain⟨i0,f0,r0⟩:=Pw Tryz.underlying3 (d:=x0.1) (ps:=x0.2) e0
   obtain⟨i1,f1,r1⟩:=Pw Tryz.underlying3 (d:=x1.1) (ps:=x1.2) e1
   obtain⟨s,v2,f2,r2⟩:=Ut Tryz.underlying9 (d:=x2.1) (ps:=x2.2) e2 (by omega)
   obtain⟨c,r3,hc⟩:=Uh n _ x3.1 x3.2 e3 (by omega)
   obtain⟨k,r4,_⟩:=Wq n [c9] x4.1 x4.2 e4 (by omega)
   obtain⟨v5,ks,f5,r5⟩:=Wa (d:=x5.1) (ps:=x5.2) e5 (by omega)
   obtain⟨v6,more,f6,r6⟩:=Wa (d:=x6.1) (ps:=x6.2) e6 (by omega)
   obtain⟨v7,ns,f7,r7⟩:=Aeq (d:=x7.1) (ps:=x7.2) e7 (by omega)
   obtain⟨v8,l,f8,r8,ds,g1,g2,g3⟩:=Nz (Hh:=fun s _=>C1 s) B6 (by simp) (by simp) Tryz.underlying29 J4 (by omega) (d:=x8.1) (ps:=x8.2) e8 (by omega) fun m hm cs' d' p' hd hb'=>ih m (by omega) cs' d' p' hd hb'
   cases f0;cases f1;cases f2;cases f5;cases f6;cases f7;cases f8
   refine⟨.mk i0 i1 s c k ks more ns l,?_,(Hz _).2 ⟨?_,fun x hx=>?_⟩⟩
   · rw[Al] at r4
     rw[Aw9]
     exact Df r0 (Df r1 (Df r2 (E0 r3 (Df (Adr r4) (Df r5 (Df r6 (Df r7 (Df r8 RL_z))))))))
   · have:=Og
     show Ap c≤_
     omega
   · obtain⟨i,hi,rfl⟩:=List.getElem_of_mem hx
     exact g3 i hi (by have:i < l.length:=hi;omega)
theorem ab_of {fuel:Nat} {v:Value} {d:DataW H} {ps:List MemPlace} {cs:Array Value} (hv:v= .agg cs) (h:DataW.trod enc Tryz.prog w base spare held fuel 38 v.cells.toList=some (d,ps)) (hb:uptoBulk d≤Eh): ∃(ks:List Kd) (s:Sm),R (FW w) g00 w (Aw ks s) v∧C1 s:=by
 subst hv
 simp only[Value.cells] at h
 obtain⟨xs,n,rfl,hx,hl,hxs,hf⟩:=DataW.trod_struct Tryz.underlying38 h
 cases hx
 have e0:=hf 0 _ rfl
 have e1:=hf 1 _ rfl
 simp only[Id,H9,J4,Nx] at hl
 obtain⟨x0,x1,rfl⟩: ∃a b,xs=[a,b]:=by
  match xs,hxs with
  | [a,b],_=>exact⟨a,b,rfl⟩
 obtain⟨c0,r,hr⟩: ∃c0 r,cs.toList=c0 :: r:=by
  cases hc:cs.toList with
  | nil=>rw[hc] at hl;simp at hl
  | cons a b=>exact⟨a,b,rfl⟩
 rw[hr] at e0 e1 hl
 simp[R0,Oy,Ol,Id,Qu,R8,H9,Z8,J4,Nx] at e0 e1 hl
 simp only[uptoBulk,List.map_cons,List.map_nil,uptoBulkAll] at hb
 obtain⟨v0,ks,f0,r0⟩:=Wa (d:=x0.1) (ps:=x0.2) e0 (by omega)
 rw[List.take_of_length_le (by omega)] at e1
 obtain⟨s,r1,hc⟩:=sm_of n r x1.1 x1.2 e1 (by omega)
 cases f0
 refine⟨ks,s,?_,hc⟩
 simp only[Aw,R]
 exact⟨cs,rfl,by rw[hr]; exact Df r0 r1⟩
theorem list5 {α :Type} {l:List α} (h:l.length=5): ∃a b c d e,l=[a,b,c,d,e]:=by
 match l,h with
 | [a,b,c,d,e],_=>exact⟨a,b,c,d,e,rfl⟩
theorem list8 {α :Type} {l:List α} (h:l.length=8): ∃a b c d e f g i,l=[a,b,c,d,e,f,g,i]:=by
 match l,h with
 | [a,b,c,d,e,f,g,i],_=>exact⟨a,b,c,d,e,f,g,i,rfl⟩
theorem list18 {α :Type} {l:List α} (h:l.length=18): ∃a b c d e f g i j k m n o p q r s t,l=[a,b,c,d,e,f,g,i,j,k,m,n,o,p,q,r,s,t]:=by
 match l,h with
 | [a,b,c,d,e,f,g,i,j,k,m,n,o,p,q,r,s,t],_=>exact⟨a,b,c,d,e,f,g,i,j,k,m,n,o,p,q,r,s,t,rfl⟩
theorem bool_of {P:Program} {spare:Nat→Bool} {t:TypeId} {fuel:Nat} {cs:List Value} {d:DataW H} {ps:List MemPlace} (ht:P.underlying t=some .bool) (h:DataW.trod enc P w base spare held fuel t cs=some (d,ps)):
 ∃n,cs=[.bool n]∧R (FW w) g00 w (.bool n) (.bool n):=by
 cases fuel with
 | zero=>simp[DataW.trod] at h
 | succ n=>
   unfold DataW.trod at h
   rw[ht] at h
   split at h<;>simp_all
   simp only[R]
theorem te_of: ∀(fuel:Nat) (cs:List Value) (d:DataW H) (ps:List MemPlace),DataW.trod enc Tryz.prog w base spare held fuel 34 cs=some (d,ps)→uptoBulk d≤Eh→∃c:Te,RL (FW w) g00 w (Bm c) cs∧teB c:=by
 intro fuel
 induction fuel using Nat.strongRecOn with
 | _ fuel ih=>
   intro cs d ps h hb
   obtain⟨xs,n,rfl,hx,hl,hxs,hf⟩:=DataW.trod_struct Tryz.underlying34 h
   cases hx
   have e0:=hf 0 _ rfl
   have e1:=hf 1 _ rfl
   have e2:=hf 2 _ rfl
   have e3:=hf 3 _ rfl
   have e4:=hf 4 _ rfl
   have e5:=hf 5 _ rfl
   have e6:=hf 6 _ rfl
   have e7:=hf 7 _ rfl
   simp only[Uz] at hl
   obtain⟨x0,x1,x2,x3,x4,x5,x6,x7,rfl⟩:=list8 hxs
   obtain⟨c0,c1,c2,c3,c4,c5,c6,c7,c8,c9,c10,c11,c12,c13,c14,c15,c16,c17,rfl⟩:=list18 hl
   simp[R0,Oy,Ol,Id,Qu,R8,H9,cells_32,Uz] at e0 e1 e2 e3 e4 e5 e6 e7
   simp only[uptoBulk,List.map_cons,List.map_nil,uptoBulkAll] at hb
   obtain⟨i0,f0,r0⟩:=Pw Tryz.underlying3 (d:=x0.1) (ps:=x0.2) e0
   obtain⟨i1,f1,r1⟩:=Pw Tryz.underlying3 (d:=x1.1) (ps:=x1.2) e1
   obtain⟨s,v2,f2,r2⟩:=Ut Tryz.underlying9 (d:=x2.1) (ps:=x2.2) e2 (by omega)
   obtain⟨c,r3,hc⟩:=Uh n _ x3.1 x3.2 e3 (by omega)
   obtain⟨c',r4,hc'⟩:=Uh n _ x4.1 x4.2 e4 (by omega)
   obtain⟨k,r5,_⟩:=Wq n [c15] x5.1 x5.2 e5 (by omega)
   obtain⟨v6,ns,f6,r6⟩:=Aeq (d:=x6.1) (ps:=x6.2) e6 (by omega)
   obtain⟨v7,l,f7,r7,ds,g1,g2,g3⟩:=Nz (Hh:=fun s _=>teB s) Bm (by simp) (by simp) Tryz.underlying32 Uz (by omega) (d:=x7.1) (ps:=x7.2) e7 (by omega) fun m hm cs' d' p' hd hb'=>ih m (by omega) cs' d' p' hd hb'
   cases f0;cases f1;cases f2;cases f6;cases f7
   refine⟨.mk i0 i1 s c c' k ns l,?_,(J1 _).2 ⟨?_,?_,fun x hx=>?_⟩⟩
   · rw[Al] at r5
     rw[Axs]
     exact Df r0 (Df r1 (Df r2 (E0 r3 (E0 r4 (Df (Adr r5) (Df r6 (Df r7 RL_z)))))))
   · have:=Og
     show Ap c≤_
     omega
   · have:=Og
     show Ap c'≤_
     omega
   · obtain⟨i,hi,rfl⟩:=List.getElem_of_mem hx
     exact g3 i hi (by have:i < l.length:=hi;omega)
theorem cns_of {fuel:Nat} {cs:List Value} {d:DataW H} {ps:List MemPlace} (h:DataW.trod enc Tryz.prog w base spare held fuel 23 cs=some (d,ps)) (hb:uptoBulk d≤Eh): ∃(v:Value) (l:List Cn),cs=[v]∧R (FW w) g00 w (.sl .none (l.map Ai)) v∧∀x ∈ l,Ap x≤1000000000000:=by
 obtain⟨v,l,h1,h2,ds,g1,g2,g3⟩:=Nz (Hh:=fun c d=>Ap c≤uptoBulk d) Ai (by simp) (by simp) Tryz.underlying23 H9 (by omega) h hb fun m hm cs' d' p' hd hb'=>Uh m cs' d' p' hd hb'
 refine⟨v,l,h1,h2,fun x hx=>?_⟩
 obtain⟨i,hi,rfl⟩:=List.getElem_of_mem hx
 have h1:=g3 i hi (by omega)
 have h2:=Ala (List.getElem_mem (l:=ds) (n:=i) (by omega))
 have:=Og
 omega
theorem el_of {fuel:Nat} {v:Value} {d:DataW H} {ps:List MemPlace} {cs:Array Value} (hv:v= .agg cs) (h:DataW.trod enc Tryz.prog w base spare held fuel 36 v.cells.toList=some (d,ps)) (hb:uptoBulk d≤Eh): ∃e:El,R (FW w) g00 w (Av e) v∧elB e:=by
 subst hv
 simp only[Value.cells] at h
 obtain⟨xs,n,rfl,hx,hl,hxs,hf⟩:=DataW.trod_struct Tryz.underlying36 h
 cases hx
 have e0:=hf 0 _ rfl
 have e1:=hf 1 _ rfl
 have e2:=hf 2 _ rfl
 have e3:=hf 3 _ rfl
 have e4:=hf 4 _ rfl
 simp only[cells_36] at hl
 obtain⟨x0,x1,x2,x3,x4,rfl⟩:=list5 hxs
 obtain⟨c0,c1,c2,r,hr⟩: ∃c0 c1 c2 r,cs.toList=c0 :: c1 :: c2 :: r:=by
  match hc:cs.toList with
  | []=>rw[hc] at hl;simp at hl
  | [a]=>rw[hc] at hl;simp at hl
  | [a,b]=>rw[hc] at hl;simp at hl
  | a :: b :: c :: r=>exact⟨a,b,c,r,rfl⟩
 rw[hr] at e0 e1 e2 e3 e4 hl
 simp[R0,cells_4,Oy,Ol,Id,Qu,R8,H9,J4,Uz] at e0 e1 e2 e3 e4 hl
 simp only[uptoBulk,List.map_cons,List.map_nil,uptoBulkAll] at hb
 obtain⟨v0,ks,f0,r0⟩:=Wa (d:=x0.1) (ps:=x0.2) e0 (by omega)
 obtain⟨v1,l,f1,r1,hl1⟩:=cns_of (d:=x1.1) (ps:=x1.2) e1 (by omega)
 obtain⟨b,f2,r2⟩:=bool_of Tryz.underlying4 (d:=x2.1) (ps:=x2.2) e2
 rw[List.take_of_length_le (by simp;omega)] at e4
 obtain⟨s,r3,hs⟩:=sm_of n _ x3.1 x3.2 e3 (by omega)
 obtain⟨t,r4,ht⟩:=te_of n _ x4.1 x4.2 e4 (by omega)
 cases f0;cases f1;cases f2
 refine⟨⟨ks,l,b,s,t⟩,?_,⟨hs,ht,hl1⟩⟩
 simp only[Av,Bx,R]
 refine⟨cs,rfl,?_⟩
 rw[hr]
 refine Df r0 (Df r1 (Df r2 ?_))
 have:=E0 r3 r4
 rwa [List.take_append_drop] at this
theorem te_arg {fuel:Nat} {v:Value} {d:DataW H} {ps:List MemPlace} {cs:Array Value} (hv:v= .agg cs) (h:DataW.trod enc Tryz.prog w base spare held fuel 34 v.cells.toList=some (d,ps)) (hb:uptoBulk d≤Eh): ∃c:Te,R (FW w) g00 w (Ae c) v∧teB c:=by
 subst hv
 obtain⟨c,h1,h2⟩:=te_of fuel _ d ps h hb
 exact⟨c,by simp only[Ae,R]; exact⟨cs,rfl,h1⟩,h2⟩
end
end Go.Proofs.YtemdkfnenjpioaaGreatDoor
namespace Go.Proofs.YtemdkfnenjpioaaGreatDoor
open Go Go.ChangeShapes Go.WideShapes Go.ChangeAt Go.RowKit Go.Lib
set_option maxRecDepth 100000
def errName:String:=match (Rows.laid_strconv_ErrRange:DataW Unit) with
 | .iface n _=>n
 | _=>""
theorem Asd (u:TypeId) (h:Tryz.prog.typeName? 3 u=some errName):u=296:=
 typeName_ptr_named (nm:="errors.errorString") (by kernel_rfl) (by kernel_rfl) (by decide) u (h.trans (congrArg some (by kernel_rfl)))
def Xb:List Int:=(List.range 256).map fun c=>if Uc c then 1 else 0
def ascName:String:="strings.asciiSpace"
theorem asc_data {H:Type} :(Rows.laid_strings_asciiSpace:DataW H)=tabData .u8 Xb:=by kernel_rfl
theorem glob_of {W:World} (hL:laidMetH Tryz.prog Rows.liftHidesUptoRow.laid W) (hS:W.ShapedOpen Tryz.prog):Dr Tryz.prog (FW W) W:=by
 have hL':laidMet Tryz.prog Rows.liftHidesUptoRow.laid W:=hL
 refine⟨?_,fun c hc=>?_,?_⟩
 · obtain⟨a1,t1,hv1,hc1,ht1,_⟩:=laid_sentinel (g:=Of) hL'.tail.tail.tail (by kernel_rfl) (by kernel_rfl) Tryz.underlying197 Asd Tryz.underlying296 Tryz.underlying298 rfl rfl Tryz.underlying9 (by kernel_rfl) (by kernel_rfl)
   have hc:=World.var?_cell (g:=Of) (by kernel_rfl) hv1 0
   have hc':W.cell? ⟨Of,0,none⟩=some (.iface 296 (.pointer (some a1))):=by simpa using hc
   exact⟨⟨rfl,by rw[hc']; rfl⟩,_,_,hc'⟩
 · have hT:Lib.TabIs Tryz.prog W ascName .u8 Xb:=by
    refine Lib.tabIs_of_head (rest:=[]) (g:=P1) (t:=302) (e:=5) (n:=256) (by kernel_rfl) (by kernel_rfl) Tryz.underlying302 Tryz.underlying5 (by kernel_rfl) (by kernel_rfl) ?_
    rw[← asc_data]
    exact hL'.tail.tail.tail.tail.tail.tail
   have:=hT.cell (g:=P1) (by kernel_rfl) c (by simpa[Xb] using hc)
   have h2:W.cell? ⟨P1,c,none⟩=some (.int .u8 (if Uc c then 1 else 0)):=by
    rw[this]; simp[Xb,List.getD,hc]
   exact⟨⟨rfl,by rw[h2]; rfl⟩,h2⟩
 · obtain⟨m,hm⟩:=cell_of_shapedOpen_int (g:=gMxl) (t:=3) (zero:=#[.int .i64 0]) (k:=.i64) hS (of_decide_eq_true (by kernel_rfl)) (by kernel_rfl) rfl (by kernel_rfl) (by kernel_rfl) Tryz.underlying3
   exact⟨⟨rfl,by rw[hm]; rfl⟩,m,hm⟩
theorem Azh {W W':World} {p:MemPlace} (h:W'.heap[p.block]? =W.heap[p.block]?):W.sameAt W' p:=by
 cases p with
 | cell b off=>
   simp only[MemPlace.block] at h
   simp only[World.sameAt,World.cell?,h]
 | map b=>
   simp only[MemPlace.block] at h
   simp only[World.sameAt,h]
theorem Auw {W W':World} {may:MemPlace→Prop} (h0:W'.os=W.os∧W'.output=W.output) (h: ∀i,i < W.heap.size→W'.heap[i]? =W.heap[i]?):W.keptBut W' may:=by
 refine⟨h0.1,h0.2,fun i hi=>?_⟩
 rw[h i hi]
 split
 · rename_i h1 h2;rw[h1] at h2;cases h2;exact⟨rfl,rfl,rfl,fun _ _=>rfl⟩
 · rename_i h1 h2;rw[h1] at h2;cases h2;exact .inr ⟨rfl,rfl⟩
 · rfl
theorem Afl {H:Type} {enc:TypeId × Value→H} {P:Program} (hl:laidOutB P=true) {W W':World} {sp':Nat→Bool} : ∀{ts:List TypeId} {vs:List Value} {ds:List (DataW H)} {p:List MemPlace},(∀ t ∈ ts,P.readableRec t=true∧t < P.types.size)→
 DataW.TrodAll enc P W 0 (fun _=>true) true ts vs ds p→(∀ x ∈ p,W.sameAt W' x)→(∀ x ∈ p,sp' x.block=true)→DataW.TrodAll enc P W' 0 sp' true ts vs ds p
 | [],_,_,_,_,h,_,_=>by
   obtain⟨rfl,rfl,rfl⟩:=trodAll_nil h
   rfl
 | t :: ts,_,_,_,ht,h,h1,h2=>by
   obtain⟨v,vs1,d,ds1,p,q,rfl,rfl,rfl,h0,r⟩:=trodAll_cons h
   exact⟨p,q,WideElems.Trod_stays hl (ht t (by simp)).1 (ht t (by simp)).2 h0 (fun x hx=>h1 x (by simp[hx])) (fun x hx=>h2 x (by simp[hx])),Afl hl (fun t h=>ht t (by simp[h])) r (fun x hx=>h1 x (by simp[hx])) (fun x hx=>h2 x (by simp[hx])),rfl⟩
theorem A16 (H:Type) (enc:TypeId × Value→H) (F:Stop.Interp) (W:World) (base:Nat) (args:Array Value) (ds gs:List (DataW H)) (before:List MemPlace)
 (hval: ∀(j:Nat) t v,Tryz.f3.params[j]? =some t→args[j]? =some v→Value.okWide Tryz.prog W .any base t v)
 (hW:DataW.Whole enc Tryz.prog Tryz.f3.params.toList (Rows.OpenSpec.upto Rows.liftHidesSpec).vars false W args.toList ds gs before)
 (hk: ∀k,(Rows.OpenSpec.upto Rows.liftHidesSpec).cond=some k→k H (ds++gs)=true)
 (hL:laidMetH Tryz.prog Rows.liftHidesUptoRow.laid W) (hS:W.ShapedOpen Tryz.prog):
 Calls Tryz.prog 3 args W fun e W'=>∃v,e= .returned v∧((Rows.OpenSpec.upto Rows.liftHidesSpec).at F).post enc Tryz.prog Tryz.f3 false true false false W args v W':=by
 have hW':=hW
 have hlt:=hW.lt
 obtain⟨p,q,hA0,hV,rfl,hfz,hnd⟩:=hW
 have hA:DataW.TrodAll enc Tryz.prog W 0 (fun _=>true) true Tryz.f3.params.toList args.toList ds p:=hA0
 rw[Tryz.params3] at hA hval
 have hA1:=hA
 obtain⟨v0,vs0,d0,ds0,p0,q0,hargs,rfl,rfl,h0,r0⟩:=trodAll_cons hA
 obtain⟨v1,vs1,d1,ds1,p1,q1,rfl,rfl,rfl,h1,r1⟩:=trodAll_cons r0
 obtain⟨v2,vs2,d2,ds2,p2,q2,rfl,rfl,rfl,h2,r2⟩:=trodAll_cons r1
 obtain⟨v3,vs3,d3,ds3,p3,q3,rfl,rfl,rfl,h3,r3⟩:=trodAll_cons r2
 obtain⟨rfl,rfl,rfl⟩:=trodAll_nil r3
 obtain rfl:args= #[v0,v1,v2,v3]:=by cases args;simp_all
 obtain⟨rfl,rfl⟩:=trodVars_none hV
 have hb0:Rows.uptoSmall H [d0,d1,d2,d3]=true:=by simpa using hk _ rfl
 have hb:Rows.uptoBulk d0≤Eh∧Rows.uptoBulk d1≤Eh∧Rows.uptoBulk d2≤Eh∧Rows.uptoBulk d3≤Eh:=by
  unfold Eh
  have:=of_decide_eq_true hb0
  simp only[Rows.uptoBulkAll] at this
  omega
 obtain⟨cs,rfl⟩: ∃cs,v0= .agg cs:=by
  have h:=hval 0 36 v0 rfl rfl
  unfold Value.okWide at h
  rw[Tryz.underlying36] at h
  obtain⟨cs,h,_⟩:=h
  exact⟨cs,h⟩
 obtain⟨cs1,rfl⟩: ∃cs,v1= .agg cs:=by
  have h:=hval 1 38 v1 rfl rfl
  unfold Value.okWide at h
  rw[Tryz.underlying38] at h
  obtain⟨cs,h,_⟩:=h
  exact⟨cs,h⟩
 obtain⟨cs3,rfl⟩: ∃cs,v3= .agg cs:=by
  have h:=hval 3 34 v3 rfl rfl
  unfold Value.okWide at h
  rw[Tryz.underlying34] at h
  obtain⟨cs,h,_⟩:=h
  exact⟨cs,h⟩
 obtain⟨sa,sn,sc,rfl⟩:=okWide_slice Tryz.underlying23 (hval 2 23 v2 rfl rfl)
 obtain⟨n0,h0⟩:=h0
 obtain⟨n1,h1⟩:=h1
 obtain⟨n2,h2⟩:=h2
 obtain⟨n3,h3⟩:=h3
 obtain⟨e,hR0,hb0⟩:=el_of rfl h0 hb.1
 obtain⟨ks,s,hR1,hb1⟩:=ab_of rfl h1 hb.2.1
 obtain⟨v,l,e3,hR2,hb2⟩:=cns_of h2 hb.2.2.1
 obtain⟨c,hR3,hb3⟩:=te_arg rfl h3 hb.2.2.2
 obtain rfl:v= .slice sa sn sc:=by
  simp only[Value.cells] at e3
  cases e3;rfl
 have hrun:=(At9 Avb e ks s l c hb0 hb1 hb2 hb3).2 (FW W) g00 W [.agg cs,.agg cs1,.slice sa sn sc,.agg cs3] (glob_of hL hS) (St.none (fun a ha=>by
  obtain⟨v,hv⟩:=Option.isSome_iff_exists.1 ha.2
  unfold World.cell? at hv
  rcases Nat.lt_or_ge a.block W.heap.size with h | h
  · exact h
  · simp[h] at hv) (fun b off s h=>by cases h.1)) (Df hR0 (Df hR1 (Df hR2 (Df hR3 RL_z))))
 refine hrun.mono ?_
 rintro e W' ⟨v,F',g',rfl,hv,_,hx⟩
 have hheap: ∀i,i < W.heap.size→W'.heap[i]? =W.heap[i]?:=fun i hi=>hx.frame i hi fun b hb=>absurd hb (Nat.not_lt_zero b)
 obtain rfl:v= .bool true:=by simpa only[R] using hv
 refine⟨_,rfl,_,[],_,[],p0++(p1++(p2++(p3++[]))),[],hW',?_,?_,rfl,Auw hx.io hheap,fun h=>by cases h⟩
 · exact trodAll_cons_mk (shut_bool Tryz.underlying4 _) trodAll_mk0
 · rw[Tryz.params3]
   refine Afl (by kernel_rfl) (fun t ht=>?_) hA1 (fun x hx=>Azh (hheap _ (hlt x (List.mem_append_left _ hx)))) (fun x hx=>by simpa using hlt x (List.mem_append_left _ hx))
   have:t=36∨t=38∨t=23∨t=34:=by simpa using ht
   rcases this with rfl | rfl | rfl | rfl
   · exact⟨by kernel_rfl,of_decide_eq_true (by kernel_rfl)⟩
   · exact⟨by kernel_rfl,of_decide_eq_true (by kernel_rfl)⟩
   · exact⟨by kernel_rfl,of_decide_eq_true (by kernel_rfl)⟩
   · exact⟨by kernel_rfl,of_decide_eq_true (by kernel_rfl)⟩
set_option maxRecDepth 100000 in
theorem A29 (os:Os) (started:os.Started) (H:Type) (enc:TypeId × Value→H) (F:Stop.Interp):
 ReturnsInHanded {} Tryz.checked os 3 .any ((Rows.OpenSpec.upto Rows.liftHidesSpec).preRow enc Tryz.prog Tryz.f3 Rows.liftHidesUptoRow.domain false Rows.liftHidesUptoRow.laid) (((Rows.OpenSpec.upto Rows.liftHidesSpec).at F).post enc Tryz.prog Tryz.f3 false true false false):=
 returnsInHanded_of_row (C:=Tryz.checked) (s:=Rows.OpenSpec.upto Rows.liftHidesSpec) own started (by kernel_rfl) Tryz.func3
  (witness os enc) (fun W base args ds gs before hval hW _ hk _ hL hS _=>A16 H enc F W base args ds gs before hval hW hk hL hS)
theorem lh_said:Rows.LiftHidesUptoSaid:=
 OpenClaim.holds_of_cond 3 Tryz.f3 rfl rfl rfl rfl rfl rfl rfl ⟨rfl,rfl,rfl,rfl,rfl⟩ rfl rfl rfl rfl rfl jf_name Tryz.func3 jf_all jf_inst jf_wrap
  (fun os started H enc _ F=>by rw[OpenClaim.pre_eq_preRow]; exact A29 os started H enc F)
theorem lh_plain (f:FuncId) (fn:Func) (hf:Tryz.pinned.checked.prog.funcNamed Rows.liftHidesUptoRow.func=some f) (hfn:Tryz.pinned.checked.prog.funcs[f]? =some fn):
 true=Tryz.pinned.checked.prog.looks []∧∀(j:Nat) t,fn.params[j]? =some t→Tryz.pinned.checked.prog.wantsStandIn t=false:=by
 obtain rfl:f=3:=Option.some.inj ((show Tryz.prog.funcNamed Rows.liftHidesUptoRow.func=some 3 by kernel_rfl).symm.trans hf) |>.symm
 obtain rfl:fn=Tryz.f3:=(Option.some.inj (Tryz.func3.symm.trans hfn)).symm
 refine⟨by kernel_rfl,fun j t ht=>?_⟩
 rw[Tryz.params3] at ht
 have:t=36∨t=38∨t=23∨t=34:=by simpa using Array.mem_of_getElem? ht
 rcases this with rfl | rfl | rfl | rfl
 · exact (show Tryz.prog.wantsStandIn 36=false by kernel_rfl)
 · exact (show Tryz.prog.wantsStandIn 38=false by kernel_rfl)
 · exact (show Tryz.prog.wantsStandIn 23=false by kernel_rfl)
 · exact (show Tryz.prog.wantsStandIn 34=false by kernel_rfl)
theorem LiftHidesUpto_card:Rows.LiftHidesUptoCardSaid:=
 Claim7.holds_tied_plain_at .later [] _ _ _ _ lh_said (fun _ h=>by cases h) (by kernel_rfl) (fun _ h=>by cases h) liftHidesUpto_row_tie rfl ⟨rfl,rfl⟩ (by kernel_rfl) rfl lh_plain (by kernel_rfl)
end Go.Proofs.YtemdkfnenjpioaaGreatDoor
