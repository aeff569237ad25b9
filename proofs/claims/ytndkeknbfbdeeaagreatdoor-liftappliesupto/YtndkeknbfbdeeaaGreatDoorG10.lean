/- A part of the proof that LiftApplies answers true. -/
import Derived.Lib.Builder
import Derived.Lib.UnsafeStr
import Derived.Laws.Externs
import Derived.Lib.Walk
import Derived.WalkKit
import Derived.Shelf.Abstract
import Derived.Test.YtndkeknbfbdeeaaGreatDoorProg
import Derived.Test.YtndkeknbfbdeeaaGreatDoorG06
import Derived.Shelf.Sort.Plain
import Derived.Shelf.Slices.CompactI
import Derived.Shelf.Slices.In.SortNone
import Derived.Test.YtndkeknbfbdeeaaGreatDoorRows
import Derived.Deep.DeepHandedRow
import Derived.Deep.DeepWitnessRowRef
import Derived.Lib.LaidIn
import Derived.Lib.LaidTab
import Derived.Stop.LaidErr
import Derived.ProofKit
import Derived.JoinedCond
set_option linter.all false
set_option maxHeartbeats 4000000
set_option maxRecDepth 100000
namespace Go.Proofs.YtndkeknbfbdeeaaGreatDoor
open Go
variable {v:AV}{H H' H0:Ai}{t:Ao}{f:FuncId}{e:Int}{V:Nat->Bool}{dst:Option Nat}
section
open Go.RowKit Go.Shelf Go.Proofs
def A0x:(Tryz.prog.info? 112).map (·.size)=some 2:=A5
def A7s(b:Nat)(w:World)(h0:w.cell? ⟨b,0,none⟩=some (.pointer (some ⟨b,0,none⟩))):
 Calls Tryz.prog 284 #[.pointer (some ⟨b,0,none⟩)] w fun e w'=>e= .returned (.tuple #[])/\w'=w:=by
 obtain⟨j,hj,_⟩:=Option.map_eq_some_iff.1 A0x
 go_enter Tryz.func284,Tryz.ntmps284
 go_wp2
 rw[Lib.run_neq_ptr_same w _ Tryz.underlying109 hj]
 go_wp2
 go_end0
 exact⟨rfl,rfl⟩
def A7q(b:Nat)(e:TypeId)(w:World)(h0:w.cell? ⟨b,0,none⟩=some (.pointer none))(Br:w.shape? b=some (e,2))(Acm:liesAt Tryz.prog Tryz.prog.depth e (2/Tryz.prog.cellsOf e) 0 112 1=true)(hfz:w.frozen? ⟨b,0,none⟩=false):
 Calls Tryz.prog 284 #[.pointer (some ⟨b,0,none⟩)] w fun e w'=>e= .returned (.tuple #[])/\w'=w.setCell ⟨b,0,none⟩ (.pointer (some ⟨b,0,none⟩)):=by
 obtain⟨j,hj,hjs⟩:=Option.map_eq_some_iff.1 A0x
 go_enter Tryz.func284,Tryz.ntmps284
 go_wp2
 rw[Lib.run_to_unsafe w ⟨b,0,none⟩ Tryz.underlying109 Tryz.underlying277 hj (by rw[hjs]; decide) Br (Nat.zero_lt_succ 1)];simp only[Result.andThen];rw[Oper.upon_value]
 go_wp2
 rw[run_callFunc_extern Tryz.func321 A5 A5 A5 (e:=Extern.AbiNoEscape.same) A5];rw[Lib.run_noEscape];simp only[Result.andThen];rw[Oper.upon_value]
 go_wp2
 rw[Lib.run_from_unsafe w ⟨b,0,none⟩ Tryz.underlying277 Tryz.underlying109 hj Br Acm];simp only[Result.andThen];rw[Oper.upon_value]
 go_wp2
 go_end0
 exact⟨rfl,rfl⟩
def Ba8:liesAt Tryz.prog Tryz.prog.depth 112 (2/Tryz.prog.cellsOf 112) 0 112 1=true:=A5
def Ba9:liesAt Tryz.prog Tryz.prog.depth 114 (2/Tryz.prog.cellsOf 114) 0 112 1=true:=A5
def A6w:Tryz.prog.cellsOf 5=1:=A5
def A26(b g len cap el:Nat)(n:Nat)(l:Bu)(w:World)(h0:l≠[])(hlen:l.length<=1073741824)(hc:w.cell? ⟨b,1,none⟩=some (.slice (some ⟨g,0,none⟩) l.length cap))(Dv:l.length<=cap)(Br:w.shape? g=some (5,n))(hn:l.length<=n)
 (hb:∀j x,l[j]? =some x->w.cell? ⟨g,j,none⟩=some (.int .u8 x.toNat)):
 Calls Tryz.prog 75 #[.pointer (some ⟨b,0,none⟩)] w fun e w'=>e= .returned (.string ⟨l.toArray⟩)/\w'=w.drew.freeze ⟨g,0,none⟩ l.length:=by
 have c1:w.drew.cell? ⟨b,1,none⟩=some (.slice (some ⟨g,0,none⟩) l.length cap):=hc;have hl0:0<l.length:=List.length_pos_iff.2 h0
 have hSD:(Builtin.unsafeSliceData_ #[110] 170 #[.slice (some ⟨g,0,none⟩) l.length cap]).run Tryz.prog w.drew= .ok (.pointer (some ⟨g,0,none⟩)) w.drew:=
  Lib.run_unsafeSliceData_row _ _ _ _ _ _ Aa
 have hUS:(Builtin.unsafeString_ #[170,3] 9 #[.pointer (some ⟨g,0,none⟩),.int .i64 l.length]).run Tryz.prog w.drew= .ok (.string ⟨l.toArray⟩) (w.drew.freeze ⟨g,0,none⟩ l.length):=by
  refine Lib.run_unsafeString_row w.drew 170 3 9 5 Tryz.underlying170 A6w g n Br l h0 Aa Aa ?_;intro j x hx;rw[T4,Pt];exact hb j x hx
 go_enter Tryz.func75,Tryz.ntmps75
 go_wp2
 go_region
 all_goals (go_wp2;go_ret;exact⟨rfl,rfl⟩)
end
section
mutual
def Oc:AV->AV->Bool
 | .bool a,.bool b=>a==b
 | .int k a,.int l b=>decide (k=l)&&a==b
 | .str a,.str b=>a==b
 | .nilp,.nilp=>true
 | .nilm,.nilm=>true
 | .ptr a b,.ptr c d=>a==c&&b==d
 | .eptr a,.eptr b=>S2 a b
 | .sl t a,.sl u b=>decide (t=u)&&ml a b
 | .nilf,.nilf=>true
 | .iface t v,.iface u w=>t==u&&Oc v w
 | .nili,.nili=>true
 | .agg a,.agg b=>S2 a b
 | .tup a,.tup b=>S2 a b
 |_,_=>false
def S2:List AV->List AV->Bool
 | [],[]=>true
 |x::xs,y::ys=>Oc x y&&S2 xs ys
 |_,_=>false
def ml:List (List AV)->List (List AV)->Bool
 | [],[]=>true
 |x::xs,y::ys=>S2 x y&&ml xs ys
 |_,_=>false
end
mutual
def Asv:∀(x y:AV),Oc x y=true->x=y
 | .bool a,y,h=>by cases y<;>simp_all[Oc]
 | .int k a,y,h=>by cases y<;>simp_all[Oc]
 | .str a,y,h=>by cases y<;>simp_all[Oc]
 | .nilp,y,h=>by cases y<;>simp_all[Oc]
 | .nilm,y,h=>by cases y<;>simp_all[Oc]
 | .ptr a b,y,h=>by cases y<;>simp_all[Oc]
 | .eptr a,y,h=>by
   cases y<;>simp only[Oc,Dp]at h
   rw[W9 _ _ h]
 | .sl t a,y,h=>by
   cases y<;>simp only[Oc,Dp,Bb,Aw]at h
   rw[h.1,Asw _ _ h.2]
 | .fn f a b,y,h=>by cases y<;>simp[Oc]at h
 | .nilf,y,h=>by cases y<;>simp_all[Oc]
 | .iface t v,y,h=>by
   cases y<;>simp only[Oc,Dp,Bb,T7]at h
   rw[h.1,Asv _ _ h.2]
 | .nili,y,h=>by cases y<;>simp_all[Oc]
 | .agg a,y,h=>by
   cases y<;>simp only[Oc,Dp]at h
   rw[W9 _ _ h]
 | .tup a,y,h=>by
   cases y<;>simp only[Oc,Dp]at h
   rw[W9 _ _ h]
def W9:∀(x y:List AV),S2 x y=true->x=y
 | [],y,h=>by cases y<;>simp_all[S2]
 |x::xs,y,h=>by
  cases y<;>simp only[S2,Dp,Bb]at h
  rw[Asv _ _ h.1,W9 _ _ h.2]
def Asw:∀(x y:List (List AV)),ml x y=true->x=y
 | [],y,h=>by cases y<;>simp_all[ml]
 |x::xs,y,h=>by
  cases y<;>simp only[ml,Dp,Bb]at h
  rw[W9 _ _ h.1,Asw _ _ h.2]
end
section
variable {β:Type}
def fN(n:Nat)(k:Nat->β):β:=match n with |0=>k 0|m+1=>k (m+1)
def mm(n:Nat)(k:Nat->β):fN n k=k n:=by cases n<;>rfl
def fI(n:Int)(k:Int->β):β:=match n with | .ofNat m=>fN m fun m=>k (.ofNat m) | .negSucc m=>fN m fun m=>k (.negSucc m)
def fI_eq(n:Int)(k:Int->β):fI n k=k n:=by cases n<;>simp[fI,mm]
def fB(b:Bool)(k:Bool->β):β:=match b with |true=>k true|false=>k false
def fB_eq(b:Bool)(k:Bool->β):fB b k=k b:=by cases b<;>rfl
def fK(b:IntKind)(k:IntKind->β):β:=match b with
 | .i8=>k .i8 | .i16=>k .i16 | .i32=>k .i32 | .i64=>k .i64 | .u8=>k .u8 | .u16=>k .u16 | .u32=>k .u32 | .u64=>k .u64
def fK_eq(b:IntKind)(k:IntKind->β):fK b k=k b:=by cases b<;>rfl
def fS(s:List UInt8)(k:List UInt8->β):β:=match s with
 | []=>k []
 |c::r=>fS r fun r=>fN c.toNat fun n=>k (UInt8.ofNat n::r)
def As1:∀(s:List UInt8) (k:List UInt8->β),fS s k=k s
 | [],_=>rfl
 |c::r,k=>by rw[fS,As1 r,mm]; simp
def fT(t:Dh)(k:Dh->β):β:=match t with | .none=>k .none | .nilT=>k .nilT | .nn=>k .nn | .tight=>k .tight | .own t=>fN t fun t=>k (.own t) | .lazy t=>fN t fun t=>k (.lazy t)
def fT_eq(t:Dh)(k:Dh->β):fT t k=k t:=by cases t<;>simp[fT,mm]
end
noncomputable def fSp{α β:Type}(l:List α):(List α->β)->β:=
 List.rec (motive:=fun _=>(List α->β)->β) (fun k=>k []) (fun x _ ih k=>ih fun xs=>k (x::xs)) l
def As2{α β:Type} :∀(l:List α) (k:List α->β),fSp l k=k l
 | [],k=>rfl
 |x::xs,k=>As2 xs _
noncomputable def O0{α β:Type}(f:α->(α->β)->β)(l:List α):(List α->β)->β:=
 List.rec (motive:=fun _=>(List α->β)->β) (fun k=>k []) (fun x _ ih k=>f x fun x=>ih fun xs=>k (x::xs)) l
def Xa{α β:Type}{f:α->(α->β)->β}(hf:∀x k,f x k=k x):∀(l:List α) (k:List α->β),O0 f l k=k l
 | [],k=>rfl
 |x::xs,k=>by
  show f x (fun x=>O0 f xs fun xs=>k (x::xs))=_;rw[hf,Xa hf xs]
noncomputable def fV{β:Type} :Nat->AV->(AV->β)->β
 |0,x,k=>k x
 |d+1,x,k=>match x with
  | .bool b=>fB b fun b=>k (.bool b)
  | .int q n=>fK q fun q=>fI n fun n=>k (.int q n)
  | .str s=>fS s fun s=>k (.str s)
  | .nilp=>k .nilp
  | .nilm=>k .nilm
  | .ptr b o=>fN b fun b=>fN o fun o=>k (.ptr b o)
  | .mapv b=>fN b fun b=>k (.mapv b)
  | .val v=>k (.val v)
  | .vsl b n=>fN b fun b=>fN n fun n=>k (.vsl b n)
  | .eptr cs=>O0 (fV d) cs fun cs=>k (.eptr cs)
  | .sl t els=>fT t fun t=>O0 (O0 (fV d)) els fun els=>k (.sl t els)
  | .fn f a b=>O0 (fV d) a fun a=>O0 (fV d) b fun b=>k (.fn f a b)
  | .nilf=>k .nilf
  | .iface t v=>fV d v fun v=>k (.iface t v)
  | .nili=>k .nili
  | .agg cs=>O0 (fV d) cs fun cs=>k (.agg cs)
  | .tup cs=>O0 (fV d) cs fun cs=>k (.tup cs)
def su{β:Type} :∀(d:Nat) (x:AV) (k:AV->β),fV d x k=k x
 |0,x,k=>rfl
 |d+1,x,k=>by
  have h:=su (β:=β) d;cases x<;>simp only[fV,fB_eq,fK_eq,fI_eq,As1,mm,fT_eq,Xa h,Xa (Xa h),h]
noncomputable def fHB{β:Type} :HB->(HB->β)->β
 | .var cs,k=>O0 (fV 1) cs fun cs=>k (.var cs)
 | .tvar e cs,k=>fN e fun e=>O0 (fV 1) cs fun cs=>k (.tvar e cs)
 | .tok n m e,k=>fN n fun n=>fN m fun m=>fN e fun e=>k (.tok n m e)
 | .mp ks,k=>O0 (fun n k=>fN n k) ks fun ks=>k (.mp ks)
def Asz{β:Type}(x:HB)(k:HB->β):fHB x k=k x:=by
 cases x<;>simp only[fHB,mm,Xa (su 1),Xa (α:=Nat) (f:=fun n k=>k n) (fun _ _=>rfl)]
noncomputable def fHq{β:Type}(op:Ek)(H:List HB)(k:List HB->β):β:=
 match Rh op,op with
 |true,.call _ _=>O0 fHB H k
 |true,_=>k H
 |false,_=>O0 fHB H k
def A8p{β:Type}(op:Ek)(H:Ai)(k:Ai->β):fHq op H k=k H:=by
 unfold fHq;split
 . exact Xa Asz H k
 . rfl
 exact Xa Asz H k
abbrev Ov:=List (Nat×AV)
def Jw(base:List AV):Ov->List AV
 | []=>base
 |p::r=>(Jw base r).set p.1 p.2
noncomputable def tn(l:List AV):Nat->AV:=
 List.rec (motive:=fun _=>Nat->AV) (fun _=>.undef) (fun x _ ih i=>Nat.rec (motive:=fun _=>AV) x (fun n _=>ih n) i) l
def Aty:∀(l:List AV) (i:Nat),tn l i=l.getD i .undef
 | [],i=>by simp[tn]
 |x::xs,0=>rfl
 |x::xs,i+1=>by
  show tn xs i=_;rw[Aty xs i]; simp
noncomputable def Adm(base:List AV)(ov:Ov)(i:Nat):AV:=
 List.rec (motive:=fun _=>AV) (tn base i) (fun p _ ih=>cond (Nat.beq i p.1) p.2 ih) ov
noncomputable def lk(base:List AV)(ov:Ov):AR->AV
 | .tmp i=>Adm base ov i
 | .cst v=>v
def Nu(base:List AV)(ov:Ov):Prop:=∀p∈ov,p.1<base.length
def Asu(base:List AV):∀ov:Ov,(Jw base ov).length=base.length
 | []=>rfl
 |p::r=>by simp[Jw,Asu base r]
def Avm{base:List AV} :∀{ov:Ov},Nu base ov->∀i,Adm base ov i=(Jw base ov).getD i .undef
 | [],_,i=>Aty base i
 |p::r,h,i=>by
  show cond (Nat.beq i p.1) p.2 (Adm base r i)=_;rw[Avm (ov:=r) (fun q hq=>h q (by simp[hq])) i];have hp:=h p Ab;simp only[Jw];cases hb:Nat.beq i p.1
  . have:p.1≠i:=fun e=>by subst e;rw[Nat.beq_refl]at hb;cases hb
    simp only[cond_false,Jb];rw[Ia this]
  have:=Oy hb;subst this;simp only[cond_true,Jb];rw[Ks (by rw[Asu]; exact hp)]; rfl
def ny{base:Ao}{ov:Ov}(h:Nu base ov):lk base ov=Bh (Jw base ov):=by
 funext x
 cases x with
 |tmp i=>exact Avm h i
 |cst v=>rfl
def dk(n:Nat)(ov:Ov)(dst:Option Nat)(v:AV):Option Ov:=
 match dst with
 |none=>some ov
 |some d=>match Nat.blt d n with
  |true=>some ((d,v)::ov)
  |false=>none
def wo{base:Ao}{ov ov':Ov}(ho:Nu base ov)(h:dk base.length ov dst v=some ov'):Nu base ov'/\Jw base ov'=Cd (Jw base ov) dst v:=by
 cases dst with
 |none=>simp only[dk,Ay]at h;subst h;exact⟨ho,rfl⟩
 |some d=>
  simp only[dk]at h;split at h
  . rename_i hb;simp only[Ay]at h;subst h;refine⟨fun p hp=>?_,rfl⟩;rcases List.mem_cons.1 hp with rfl|hp
    . simpa[Nat.blt_eq]using hb
    exact ho p hp
  cases h
def ij(ρ:AR->AV):Option (Nat×Bool)->Bool
 |none=>true
 |some (d,want)=>match ρ (.tmp d)with
  | .bool b=>b==want
  |_=>false
def At2(t:Ao)(gd:Option (Nat×Bool)):ij (Bh t) gd=It t gd:=by
 cases gd with
 |none=>rfl
 |some p=>
  obtain⟨d,want⟩:=p;simp only[ij,It,Bh,Jb]
  cases t[d]? with
  |none=>rfl
  |some x=>cases x<;>rfl
abbrev Kq:=FuncId->List AV->List HB->Option (AV×List HB)
def eOp(call:Kq)(op:Ek)(ρ:AR->AV)(H:List HB):Option (AV×List HB):=
 match op with
 | .call f args=>match ρ f with
   | .fn (.func n) a b=>call n (a++args.map ρ++b) H
   |_=>none
 |op=>B4 op ρ H
noncomputable def fR{β:Type}(n:Nat)(op:Ek)(dst:Option Nat)(ov:Ov)(x:Option (AV×List HB))(k:Ov->List HB->Option β):Option β:=
 match x with
 |none=>none
 |some (v,H)=>fV 3 v fun v=>fHq op H fun H=>match dk n ov dst v with
  |some ov=>k ov H
  |none=>none
def As0{β:Type}{n:Nat}{op:Ek}{ov:Ov}{x:Option (AV×Ai)}{k:Ov->Ai->Option β}{r:β}(h:fR n op dst ov x k=some r):∃v H ov',x=some (v,H)/\dk n ov dst v=some ov'/\k ov' H=some r:=by
 cases x with
 |none=>cases h
 |some p=>
  simp only[fR,su,A8p]at h;split at h
  . rename_i ov' ho;exact⟨p.1,p.2,ov',rfl,ho,h⟩
  cases h
def fU{β:Type}(n:Nat)(dst:Option Nat)(ov:Ov)(k:Ov->Option β):Option β:=
 match dk n ov dst .undef with
 |some ov=>k ov
 |none=>none
def As3{β:Type}{n:Nat}{ov:Ov}{k:Ov->Option β}{r:β}(h:fU n dst ov k=some r):∃ov',dk n ov dst .undef=some ov'/\k ov'=some r:=by
 unfold fU at h;split at h
 . rename_i ov' ho;exact⟨ov',ho,h⟩
 cases h
noncomputable def Z8(call:Kq)(base:List AV)(n:Nat)(l:List AO):Ov->List HB->Option (Ov×List HB):=
 List.rec (motive:=fun _=>Ov->List HB->Option (Ov×List HB)) (fun ov H=>some (ov,H)) (fun o _ ih ov H=>
  match ij (lk base ov) o.guard with
  |true=>fR n o.op o.dst ov (eOp call o.op (lk base ov) H) fun ov H=>ih ov H
  |false=>fU n o.dst ov fun ov=>ih ov H) l
def A77(call:Kq)(base:Ao)(n:Nat)(ov:Ov)(H:Ai):Z8 call base n [] ov H=some (ov,H):=rfl
def A76(call:Kq)(base:Ao)(n:Nat)(o:AO)(l:B8)(ov:Ov)(H:Ai):Z8 call base n (o::l) ov H=
 match ij (lk base ov) o.guard with
 |true=>fR n o.op o.dst ov (eOp call o.op (lk base ov) H) fun ov H=>Z8 call base n l ov H
 |false=>fU n o.dst ov fun ov=>Z8 call base n l ov H:=rfl
def Z9(x y:Option HB):Bool:=match x,y with
 |some (.var a),some (.var b)=>S2 a b
 |some (.var _),_=>false
 |_,_=>true
def vg(V:Nat->Bool)(H0 H:List HB):Bool:=(List.range H0.length).all fun b=>!V b||Z9 H0[b]? H[b]?
def Au2(h:vg V H0 H=true):Ev V H0 H:=by
 intro b cs hv hb;unfold vg at h;rw[Pn]at h;have:=h b (List.mem_range.2 (List.getElem?_eq_some_iff.1 hb).1);rw[hv,hb]at this;simp only[Bool.not_true,Bool.false_or]at this;unfold Z9 at this;split at this
 . rename_i e1 e2;simp only[Ay,HB.var.injEq]at e1;subst e1;rw[W9 _ _ this]; exact e2
 . cases this
 rename_i h1 h2;exact(h1 cs rfl).elim
def Aez(call:Kq)(n:FuncId)(avs:List AV)(H:List HB):Option (AV×List HB):=
 match A0 0 avs with
 |true=>match call n avs []with
  |some (v,H1)=>match H1 with
   | []=>match v.inScope 0 with
     |true=>some (v,H)
     |false=>none
   |_::_=>none
  |none=>none
 |false=>none
def Bnl{call:Kq}{n:FuncId}{avs:Ao}(h:Aez call n avs H=some (v,H')):H'=H/\A0 0 avs=true/\v.inScope 0=true/\call n avs []=some (v,[]):=by
 unfold Aez at h;split at h
 . rename_i hs;split at h
   . rename_i v1 H1 hv;split at h
     . split at h
       . rename_i E7;simp only[Ay,Cg]at h;obtain⟨rfl,rfl⟩:=h;exact⟨rfl,hs,E7,hv⟩
       cases h
     cases h
   cases h
 cases h
def gi(call:Kq)(V:Nat->Bool)(nq:Bool)(H0:List HB)(op:Ek)(ρ:AR->AV)(H:List HB):Option (AV×List HB):=
 match op with
 | .call f args=>match ρ f with
   | .fn (.func n) a b=>match nq with
     |true=>match call n (a++args.map ρ++b) H with
      |some (v,H')=>if vg V H0 H'=true then some (v,H')else none
      |none=>none
     |false=>Aez call n (Ce (a++args.map ρ++b)) H
   |_=>none
 | .load ag n x=>match nq with
   |true=>B4 (.load ag n x) ρ H
   |false=>(V2 V H0 ag n (ρ x)).map (·,H)
 |op=>B4 op ρ H
noncomputable def eD(call:Kq)(base:List AV)(n:Nat)(V:Nat->Bool)(nq:List Nat)(H0:List HB)(l:List AO):Nat->Ov->List HB->Option (Ov×List HB):=
 List.rec (motive:=fun _=>Nat->Ov->List HB->Option (Ov×List HB)) (fun _ ov H=>some (ov,H)) (fun o _ ih k ov H=>
  match ij (lk base ov) o.guard with
  |true=>fR n o.op o.dst ov (gi call V (nq.contains k) H0 o.op (lk base ov) H) fun ov H=>ih (k+1) ov H
  |false=>fU n o.dst ov fun ov=>ih (k+1) ov H) l
def A71(call:Kq)(base:Ao)(n:Nat)(V:Nat->Bool)(nq:Ck)(H0:Ai)(o:AO)(l:B8)(k:Nat)(ov:Ov)(H:Ai):eD call base n V nq H0 (o::l) k ov H=
 match ij (lk base ov) o.guard with
 |true=>fR n o.op o.dst ov (gi call V (nq.contains k) H0 o.op (lk base ov) H) fun ov H=>eD call base n V nq H0 l (k+1) ov H
 |false=>fU n o.dst ov fun ov=>eD call base n V nq H0 l (k+1) ov H:=rfl
def W1:Nat->List AO->List Nat
 |_,[]=>[]
 |k,o::r=>match o.op with | .call _ _=>k::W1 (k+1) r|_=>W1 (k+1) r
noncomputable def Z7(call:Kq)(base:List AV)(n:Nat)(V:Nat->Bool)(nq:List Nat)(ops:List AO)(ws:List (List Nat))(ov:Ov)(H:List HB):Option (Ov×List HB):=
 match K4 ops ws (H6 ops nq) (Mj ops)with
 |true=>eD call base n V nq H ops 0 ov H
 |false=>none
noncomputable def eDF(call:Kq)(base:List AV)(n:Nat)(V:Nat->Bool)(nq:List Nat)(ops:List AO)(ws:List (List Nat))(ov:Ov)(H:List HB):Option (Ov×List HB):=
 match K4 ops ws (H6 ops nq) ops.length&&d6 ops nq with
 |true=>match eD call base n V nq H ops 0 ov H with
  |some (ov',H')=>if vg V H H'=true then some (ov',H')else none
  |none=>none
 |false=>none
def dc{α:Type}(x:Option α)(y:Unit->Option α):Option α:=match x with |some v=>some v|none=>y ()
noncomputable def Abn(call:Kq)(base:List AV)(n:Nat)(ops:List AO)(ws:List (List Nat))(ov:Ov)(H:List HB):Option (Ov×List HB):=
 dc (Z7 call base n (fun _=>true) [] ops ws ov H) fun _=>
 dc (Z7 call base n (fun _=>true) (W1 0 ops) ops ws ov H) fun _=>
 match Z8 call base n ops ov H with
 |none=>none
 |some (_,H1)=>
  dc (Z7 call base n (fun b=>Z9 H[b]? H1[b]?) (W1 0 ops) ops ws ov H) fun _=>
  dc (Z7 call base n (fun b=>Z9 H[b]? H1[b]?) ((W1 0 ops).drop ((W1 0 ops).length-1)) ops ws ov H) fun _=>
  dc (Z7 call base n (fun b=>Z9 H[b]? H1[b]?) ((W1 0 ops).drop ((W1 0 ops).length-2)) ops ws ov H) fun _=>
  dc (eDF call base n (fun b=>Z9 H[b]? H1[b]?) [] ops ws ov H) fun _=>eDF call base n (fun b=>Z9 H[b]? H1[b]?) (W1 0 ops) ops ws ov H
abbrev eg:=Option (AX×Ov×List HB)
noncomputable def S0(call:Kq)(base:List AV)(n:Nat)(rec:AC->Ov->List HB->eg)(c:AC)(ov:Ov)(H:List HB):eg:=
 match c with
 | .skip=>some (.normal,ov,H)
 | .region ops=>match Z8 call base n ops ov H with |some (ov',H')=>some (.normal,ov',H')|none=>none
 | .draw ops ws=>match Abn call base n ops ws ov H with |some (ov',H')=>some (.normal,ov',H')|none=>none
 | .seq a b=>match rec a ov H with
   |some (.normal,ov',H')=>rec b ov' H'
   |r=>r
 | .cond c a b=>match lk base ov c with
   | .bool true=>rec a ov H
   | .bool false=>rec b ov H
   |_=>none
 | .block id a=>match rec a ov H with
   |some (.exit i,ov',H')=>match Nat.beq i id with
    |true=>some (.normal,ov',H')
    |false=>some (.exit i,ov',H')
   |r=>r
 | .loop a=>match rec a ov H with
   |some (.normal,ov',H')=>rec (.loop a) ov' H'
   |r=>r
 | .exit id=>some (.exit id,ov,H)
 | .ret=>some (.ret,ov,H)
 | .bad=>none
noncomputable def gg(call:Kq)(base:List AV)(n:Nat)(fuel:Nat):AC->Ov->List HB->eg:=
 Nat.rec (motive:=fun _=>AC->Ov->List HB->eg) (fun _ _ _=>none) (fun _ ih=>S0 call base n ih) fuel
def Asa(call:Kq)(base:Ao)(n fuel:Nat)(c:AC)(ov:Ov)(H:Ai):gg call base n (fuel+1) c ov H=S0 call base n (gg call base n fuel) c ov H:=rfl
def Ah8(ρ:AR->AV)(H:List HB):Gp->Option AV
 | .tmp i=>some (ρ (.tmp i))
 | .cell i ag n=>match ρ (.tmp i)with
   | .ptr b off=>match H[b]? with
     |some (.var cs)=>Ni ag n (cs.drop off)
     |_=>none
   |_=>none
def qz(ρ:AR->AV)(H:List HB):List Gp->Option (List AV)
 | []=>some []
 |r::rs=>(Ah8 ρ H r).bind fun v=>(qz ρ H rs).map (v :: ·)
def Aar(ρ:AR->AV)(H:List HB)(rs:List Gp):Option AV:=
 (qz ρ H rs).map fun vs=>match vs with | [v]=>v|vs=>.tup vs
def Ah9(t:Ao)(H:Ai)(rs:List Gp):Aar (Bh t) H rs=I2 t H rs:=by
 have h1:∀r,Ah8 (Bh t) H r=Js t H r:=fun r=>by cases r<;>rfl
 have h2:∀rs,qz (Bh t) H rs=Ic t H rs:=fun rs=>by
  induction rs with
  |nil=>rfl
  |cons r rs ih=>simp only[qz,Ic,h1,ih]
 simp only[Aar,I2,h2];rfl
noncomputable def sr(base:List AV)(rs:List Gp)(n:Nat)(r:eg):Option (AV×List HB):=
 match r with
 |some (.exit _,_,_)=>none
 |some (_,ov,H)=>match Aar (lk base ov) H rs with
  |some v=>if n<=H.length then
   if v.strip.inScope n=true/\Be n (H.take n)=true then some (v.strip,H.take n)
   else if v.strip.inScope H.length=true/\Be H.length H=true then some (v.strip,H)else none
   else none
  |none=>none
 |none=>none
noncomputable def Ar9(tab:FuncId->Option (AC×Nat×List Gp))(prim:Kq)(fuel:Nat):Kq:=
 Nat.rec (motive:=fun _=>Kq) (fun _ _ _=>none) (fun _ ih f args H=>match prim f args H with
  |some r=>some r
  |none=>match tab f with
   |some (ac,nt,rs)=>O0 (fV 1) args fun args=>fSp (start args nt) fun base=>sr base rs H.length (gg ih base base.length 1000 ac [] H)
   |none=>none) fuel
section
variable {P:Program} {call:Kq} (hcall:∀f args H v H',call f args H=some (v,H')->C7 P f args H v H')
include hcall
def A75{op:Ek}(h:eOp call op (Bh t) H=some (v,H')){K:AV->Ai->Prop}(hK:K v H'):db P op t H K:=by
 cases op
 case call f args=>
  simp only[eOp]at h;simp only[db,Yo];split at h
  . rename_i hf;rw[hf]; exact .inl ⟨v,H',(hcall _ _ _ _ _ h).res,hK⟩
  cases h
 all_goals
  simp only[eOp]at h;simp only[db,h];exact hK
def Abo{base:List AV} :∀(l:List AO) {ov ov':Ov} {H H':List HB} {K:List AV->List HB->Prop},Nu base ov->Z8 call base base.length l ov H=some (ov',H')->(Nu base ov'->K (Jw base ov') H')->Yl P l (Jw base ov) H K
 | [],ov,ov',H,H',K,ho,h,hK=>by
   simp only[A77,Ay,Cg]at h
   obtain⟨rfl,rfl⟩:=h;exact hK ho
 |o::l,ov,ov',H,H',K,ho,h,hK=>by
  rw[A76,ny ho,At2]at h;simp only[Yl];cases hg:It (Jw base ov) o.guard
  . rw[hg]at h;obtain⟨ov1,h1,h2⟩:=As3 h;obtain⟨p1,p2⟩:=wo ho h1;rw[Vz,<-p2]; exact Abo l p1 h2 hK
  rw[hg]at h;rw[jn];obtain⟨v,H1,ov1,h1,h2,h3⟩:=As0 h;obtain⟨p1,p2⟩:=wo ho h2;refine A75 hcall h1 ?_;rw[<- p2]; exact Abo l p1 h3 hK
def A72{nq:Bool}{op:Ek}(h:gi call V nq H0 op (Bh t) H=some (v,H')){K:AV->Ai->Prop}(hK:K v H'):Mb P V nq H0 op t H K:=by
 cases op
 case call f args=>
  simp only[gi]at h;simp only[Mb];split at h
  . rename_i n a b hf;cases nq
    . rw[Vz];simp only[ka,hf];obtain⟨rfl,hs,E7,hv⟩:=Bnl h;exact⟨v,fun H2 _=>(((hcall _ _ _ _ _ hv).lift hs E7 H2).args rfl).res,hK⟩
    rw[jn];simp only[Yo,hf];simp only at h;split at h
    . rename_i v1 H1 hv;split at h
      . rename_i hk;simp only[Ay,Cg]at h;obtain⟨rfl,rfl⟩:=h;exact⟨v1,H1,(hcall _ _ _ _ _ hv).res,Au2 hk,hK⟩
      cases h
    cases h
  cases h
 case load ag n x=>
  simp only[gi]at h;simp only[Mb];cases nq
  . rw[Vz];simp only[Ef,Cg]at h;obtain⟨v1,h1,rfl,rfl⟩:=h;rw[h1]; exact hK
  rw[jn];simp only at h;rw[h]; exact hK
 all_goals
  simp only[gi]at h;simp only[Mb,h];exact hK
def sq{base:List AV}{V:Nat->Bool}{nq:List Nat}{H0:List HB} :∀(l:List AO) {k:Nat} {ov ov':Ov} {H H':List HB} {K:List AV->List HB->Prop},Nu base ov->eD call base base.length V nq H0 l k ov H=some (ov',H')->(Nu base ov'->K (Jw base ov') H')->Jv P V nq H0 k l (Jw base ov) H K
 | [],k,ov,ov',H,H',K,ho,h,hK=>by
   have h':some (ov,H)=some (ov',H'):=h;simp only[Ay,Cg]at h'
   obtain⟨rfl,rfl⟩:=h';exact hK ho
 |o::l,k,ov,ov',H,H',K,ho,h,hK=>by
  rw[A71,ny ho,At2]at h;simp only[Jv];cases hg:It (Jw base ov) o.guard
  . rw[hg]at h;obtain⟨ov1,h1,h2⟩:=As3 h;obtain⟨p1,p2⟩:=wo ho h1;rw[Vz,<-p2]; exact sq l p1 h2 hK
  rw[hg]at h;rw[jn];obtain⟨v,H1,ov1,h1,h2,h3⟩:=As0 h;obtain⟨p1,p2⟩:=wo ho h2;refine A72 hcall h1 ?_;rw[<- p2]; exact sq l p1 h3 hK
variable {base:List AV}
def mh(hm:P.follows .mixedOrders=true){nq:Ck}{ops:B8}{ws:List Ck}{ov ov':Ov}(ho:Nu base ov)(h:Z7 call base base.length V nq ops ws ov H=some (ov',H')){Q:Co}(hK:Nu base ov'->Q .normal (Jw base ov') H'):A9 P (.draw ops ws) (Jw base ov) H Q:=by
 unfold Z7 at h;split at h
 . rename_i hl;exact A9.drawC hm V nq hl (sq hcall ops ho h hK)
 cases h
def Asb(hm:P.follows .mixedOrders=true){nq:Ck}{ops:B8}{ws:List Ck}{ov ov':Ov}(ho:Nu base ov)(h:eDF call base base.length V nq ops ws ov H=some (ov',H')){Q:Co}(hK:Nu base ov'->Q .normal (Jw base ov') H'):A9 P (.draw ops ws) (Jw base ov) H Q:=by
 unfold eDF at h;split at h
 . rename_i hl;rw[Bb]at hl;split at h
   . rename_i t1 H1 h1;split at h
     . rename_i hk;simp only[Ay,Cg]at h;obtain⟨rfl,rfl⟩:=h;exact A9.drawF hm V nq hl.1 hl.2 (sq hcall ops ho h1 fun ho'=>⟨Au2 hk,hK ho'⟩)
     cases h
   cases h
 cases h
def A73(hm:P.follows .mixedOrders=true){ops:B8}{ws:List Ck}{ov ov':Ov}(ho:Nu base ov)(h:Abn call base base.length ops ws ov H=some (ov',H')){Q:Co}(hK:Nu base ov'->Q .normal (Jw base ov') H'):A9 P (.draw ops ws) (Jw base ov) H Q:=by
 have or:∀{x:Option (Ov×Ai)} {y:Unit->Option (Ov×Ai)} {r:Ov×Ai},dc x y=some r->x=some r\/y ()=some r:=by
  intro x y r h;cases x
  . exact .inr h
  exact .inl h
 unfold Abn at h;rcases or h with h|h
 . exact mh hcall hm ho h hK
 rcases or h with h|h
 . exact mh hcall hm ho h hK
 split at h
 . cases h
 rcases or h with h|h
 . exact mh hcall hm ho h hK
 rcases or h with h|h
 . exact mh hcall hm ho h hK
 rcases or h with h|h
 . exact mh hcall hm ho h hK
 rcases or h with h|h
 . exact Asb hcall hm ho h hK
 exact Asb hcall hm ho h hK
def A70(hm:P.follows .mixedOrders=true):∀(n:Nat) (c:AC) {ov ov':Ov} {H H':Ai} {x:AX},Nu base ov->gg call base base.length n c ov H=some (x,ov',H')->A9 P c (Jw base ov) H fun x1 t1 H1=>Nu base ov'/\x1=x/\t1=Jw base ov'/\H1=H':=by
 intro n
 induction n using Nat.strongRecOn with
 |_ n ih=>
  intro c ov ov' H H' x ho h
  cases n with
  |zero=>cases h
  |succ n=>
   rw[Asa]at h;have ih0:=@ih n Aa;cases c
   case skip=>
    simp only[S0,Ay,Cg]at h;obtain⟨rfl,rfl,rfl⟩:=h;exact A9.skip ⟨ho,rfl,rfl,rfl⟩
   case exit id=>
    simp only[S0,Ay,Cg]at h;obtain⟨rfl,rfl,rfl⟩:=h;exact A9.exit ⟨ho,rfl,rfl,rfl⟩
   case ret=>
    simp only[S0,Ay,Cg]at h;obtain⟨rfl,rfl,rfl⟩:=h;exact A9.ret ⟨ho,rfl,rfl,rfl⟩
   case bad=>simp[S0]at h
   case region ops=>
    simp only[S0]at h;split at h
    . rename_i t1 H1 h1;simp only[Ay,Cg]at h;obtain⟨rfl,rfl,rfl⟩:=h;exact A9.region (Sw (Abo hcall ops ho h1 fun ho'=>⟨ho',rfl,rfl,rfl⟩))
    cases h
   case draw ops ws=>
    simp only[S0]at h;split at h
    . rename_i t1 H1 h1;simp only[Ay,Cg]at h;obtain⟨rfl,rfl,rfl⟩:=h;exact A73 hcall hm ho h1 fun ho'=>⟨ho',rfl,rfl,rfl⟩
    cases h
   case seq a b=>
    simp only[S0]at h;refine A9.seq ?_;split at h
    . rename_i t1 H1 h1;refine(ih0 a ho h1).mono ?_;rintro y t2 H2 ⟨Iv,rfl,rfl,rfl⟩;exact ih0 b Iv h
    rename_i h1;refine(ih0 a ho h).mono ?_;rintro y t2 H2 ⟨Iv,rfl,rfl,rfl⟩;cases y
    . exact absurd h (h1 _ _)
    . exact⟨Iv,rfl,rfl,rfl⟩
    exact⟨Iv,rfl,rfl,rfl⟩
   case cond e a b=>
    simp only[S0,ny ho]at h;split at h
    . rename_i he;exact A9.cond he (fun _=>ih0 a ho h) (fun e=>by cases e)
    . rename_i he;exact A9.cond he (fun e=>by cases e) (fun _=>ih0 b ho h)
    cases h
   case block id a=>
    simp only[S0]at h;refine A9.block ?_;split at h
    . rename_i i t1 H1 h1;refine(ih0 a ho h1).mono ?_;rintro y t2 H2 ⟨Iv,rfl,rfl,rfl⟩;simp only[l7];split at h<;>rename_i hi
      . rw[Ae (Oy hi)];simp only[Ay,Cg]at h;obtain⟨rfl,rfl,rfl⟩:=h;exact⟨Iv,rfl,rfl,rfl⟩
      rw[Ac (Nat.ne_of_beq_eq_false hi)];simp only[Ay,Cg]at h;obtain⟨rfl,rfl,rfl⟩:=h;exact⟨Iv,rfl,rfl,rfl⟩
    rename_i h1;refine(ih0 a ho h).mono ?_;rintro y t2 H2 ⟨Iv,rfl,rfl,rfl⟩;cases y
    . exact⟨Iv,rfl,rfl,rfl⟩
    . exact absurd h (h1 _ _ _)
    exact⟨Iv,rfl,rfl,rfl⟩
   case loop a=>
    refine A9.loop (fun m t1 H1=>m<=n+1/\∃ov1,Nu base ov1/\t1=Jw base ov1/\gg call base base.length m (.loop a) ov1 H1=some (x,ov',H')) (n+1) ⟨Bm _,ov,ho,rfl,h⟩ ?_;rintro m t1 H1 ⟨Sf,ov1,Iv,rfl,h1⟩
    cases m with
    |zero=>cases h1
    |succ m=>
     rw[Asa]at h1;have ihm:=@ih m Aa;simp only[S0]at h1;split at h1
     . rename_i t2 H2 h2;refine(ihm a Iv h2).mono ?_;rintro y t3 H3 ⟨P9,rfl,rfl,rfl⟩;exact⟨m,Aa,Aa,_,P9,rfl,h1⟩
     rename_i h2;refine(ihm a Iv h1).mono ?_;rintro y t3 H3 ⟨P9,rfl,rfl,rfl⟩;cases y
     . exact absurd h1 (h2 _ _)
     . exact⟨P9,rfl,rfl,rfl⟩
     exact⟨P9,rfl,rfl,rfl⟩
end
def A74{base:Ao}{rs:List Gp}{n:Nat}{r:eg}(h:sr base rs n r=some (v,H')):∃x ov H,r=some (x,ov,H)/\(Nu base ov->Gl rs v H' x (Jw base ov) H)/\n<=H'.length:=by
 unfold sr at h;split at h
 . cases h
 . rename_i x ov H hx;split at h
   . rename_i u hu;split at h
     . rename_i hn
       have hx':x= .normal\/x= .ret:=by
        cases x
        . exact .inl rfl
        . rename_i i;exact(hx i rfl).elim
        exact .inr rfl
       split at h
       . rename_i hs;simp only[Ay,Cg]at h;obtain⟨rfl,rfl⟩:=h;have hl:(H.take n).length=n:=by simp;omega
         exact⟨x,ov,H,rfl,fun ho=>⟨hx',⟨u,by rw[<- Ah9,<-ny ho]; exact hu,rfl⟩,⟨H.drop n,Ab⟩,by rw[hl]; exact hs.1,by rw[hl]; exact hs.2⟩,Aa⟩
       split at h
       . rename_i hs;simp only[Ay,Cg]at h;obtain⟨rfl,rfl⟩:=h;exact⟨x,ov,H,rfl,fun ho=>⟨hx',⟨u,by rw[<- Ah9,<-ny ho]; exact hu,rfl⟩,⟨[],Ab⟩,hs.1,hs.2⟩,hn⟩
       cases h
     cases h
   cases h
 cases h
def Vo{P:Program}(hm:P.follows .mixedOrders=true){tab:FuncId->Option (AC×Nat×List Gp)}{prim:Kq}(hT:∀f ac n rs,tab f=some (ac,n,rs)->Nk P f ac n rs)
 (hP:∀f args H v H',prim f args H=some (v,H')->C7 P f args H v H'):∀(n:Nat) (f:FuncId) (args:Ao) (H:Ai) (v:AV) (H':Ai),Ar9 tab prim n f args H=some (v,H')->C7 P f args H v H'
 |0,_,_,_,_,_,h=>by cases h
 |n+1,f,args,H,v,H',h=>by
  have h':(match prim f args H with
   |some r=>some r
   |none=>match tab f with
    |some (ac,nt,rs)=>O0 (fV 1) args fun args=>fSp (start args nt) fun base=>sr base rs H.length (gg (Ar9 tab prim n) base base.length 1000 ac [] H)
    |none=>none)=some (v,H'):=h
  clear h;split at h'
  . rename_i r hr;simp only[Ay]at h';subst h';exact hP _ _ _ _ _ hr
  split at h'
  . rename_i ac nt rs ht;rw[Xa (su 1),As2]at h';obtain⟨x,ov,H1,h1,h2,h3⟩:=A74 h';refine C7.of (hT _ _ _ _ ht) h3 ((A70 (Vo hm hT hP n) hm _ _ (fun p hp=>by simp at hp) h1).mono ?_);rintro y t2 H2 ⟨ho,rfl,rfl,rfl⟩;exact h2 ho
  cases h'
end
end Go.Proofs.YtndkeknbfbdeeaaGreatDoor
namespace Go.Proofs
open Go.Shelf
def Tryz.lays189_ren:Go.Shelf.Ren:=⟨fun |189=>240|125=>296|257=>295|128=>341|129=>342|294=>332|295=>333|296=>334|297=>335|298=>336|299=>337|216=>338|300=>339|301=>340|328=>364|329=>365|330=>366|331=>367|332=>368|215=>369|343=>388|n=>n,fun |28=>184|3=>3|46=>264|0=>0|51=>295|53=>280|4=>4|183=>288|182=>287|131=>128|5=>5|9=>9|218=>310|222=>58|228=>325|229=>296|n=>n,fun |n=>n⟩
def Tryz.lays189:Go.Proofs.Lays.n189 Tryz.prog Tryz.lays189_ren:={
 mixed:=by kernel_rfl
 f125:=Tryz.func296.trans (congrArg some (by kernel_rfl))
 f128:=Tryz.func341.trans (congrArg some (by kernel_rfl))
 f129:=Tryz.func342.trans (congrArg some (by kernel_rfl))
 f189:=Tryz.func240.trans (congrArg some (by kernel_rfl))
 f215:=Tryz.func369.trans (congrArg some (by kernel_rfl))
 f216:=Tryz.func338.trans (congrArg some (by kernel_rfl))
 f257:=Tryz.func295.trans (congrArg some (by kernel_rfl))
 f294:=Tryz.func332.trans (congrArg some (by kernel_rfl))
 f295:=Tryz.func333.trans (congrArg some (by kernel_rfl))
 f296:=Tryz.func334.trans (congrArg some (by kernel_rfl))
 f297:=Tryz.func335.trans (congrArg some (by kernel_rfl))
 f298:=Tryz.func336.trans (congrArg some (by kernel_rfl))
 f299:=Tryz.func337.trans (congrArg some (by kernel_rfl))
 f300:=Tryz.func339.trans (congrArg some (by kernel_rfl))
 f301:=Tryz.func340.trans (congrArg some (by kernel_rfl))
 f328:=Tryz.func364.trans (congrArg some (by kernel_rfl))
 f329:=Tryz.func365.trans (congrArg some (by kernel_rfl))
 f330:=Tryz.func366.trans (congrArg some (by kernel_rfl))
 f331:=Tryz.func367.trans (congrArg some (by kernel_rfl))
 f332:=Tryz.func368.trans (congrArg some (by kernel_rfl))
 f343:=Tryz.func388.trans (congrArg some (by kernel_rfl))
 t0:=Tryz.underlying0
 a0:=Tryz.isAgg0
 z0:=Tryz.sizeOf0
 v0:=Tryz.zeroValue0
 t3:=Tryz.underlying3
 a3:=Tryz.isAgg3
 z3:=Tryz.sizeOf3
 v3:=Tryz.zeroValue3
 t4:=Tryz.underlying4
 a4:=Tryz.isAgg4
 z4:=Tryz.sizeOf4
 v4:=Tryz.zeroValue4
 t5:=Tryz.underlying5
 a5:=Tryz.isAgg5
 z5:=Tryz.sizeOf5
 v5:=Tryz.zeroValue5
 t9:=Tryz.underlying9
 a9:=Tryz.isAgg9
 z9:=Tryz.sizeOf9
 v9:=Tryz.zeroValue9
 t28:=Tryz.underlying184
 a28:=Tryz.isAgg184
 z28:=Tryz.sizeOf184
 v28:=Tryz.zeroValue184
 t46:=Tryz.underlying264
 a46:=Tryz.isAgg264
 z46:=Tryz.sizeOf264
 v46:=Tryz.zeroValue264
 t51:=Tryz.underlying295
 a51:=Tryz.isAgg295
 z51:=Tryz.sizeOf295
 v51:=Tryz.zeroValue295
 t53:=Tryz.underlying280
 a53:=Tryz.isAgg280
 z53:=Tryz.sizeOf280
 v53:=Tryz.zeroValue280
 t131:=Tryz.underlying128
 a131:=Tryz.isAgg128
 z131:=Tryz.sizeOf128
 v131:=Tryz.zeroValue128
 t182:=Tryz.underlying287
 a182:=Tryz.isAgg287
 z182:=Tryz.sizeOf287
 v182:=Tryz.zeroValue287
 t183:=Tryz.underlying288
 a183:=Tryz.isAgg288
 z183:=Tryz.sizeOf288
 v183:=Tryz.zeroValue288
 t218:=Tryz.underlying310
 a218:=Tryz.isAgg310
 z218:=Tryz.sizeOf310
 v218:=Tryz.zeroValue310
 t222:=Tryz.underlying58
 a222:=Tryz.isAgg58
 z222:=Tryz.sizeOf58
 v222:=Tryz.zeroValue58
 t228:=Tryz.underlying325
 a228:=Tryz.isAgg325
 z228:=Tryz.sizeOf325
 v228:=Tryz.zeroValue325
 t229:=Tryz.underlying296
 a229:=Tryz.isAgg296
 z229:=Tryz.sizeOf296
 v229:=Tryz.zeroValue296}
def Tryz.laysNm220_ren:Go.Shelf.Ren:=⟨fun |20=>294|n=>n,fun |22=>184|3=>3|4=>4|0=>0|n=>n,fun |n=>n⟩
def Tryz.laysNm220:Go.Proofs.Lays2.n20 Tryz.prog Tryz.laysNm220_ren:={
 mixed:=by kernel_rfl
 f20:=Tryz.func294.trans (congrArg some (by kernel_rfl))
 t0:=Tryz.underlying0
 a0:=Tryz.isAgg0
 z0:=Tryz.sizeOf0
 v0:=Tryz.zeroValue0
 t3:=Tryz.underlying3
 a3:=Tryz.isAgg3
 z3:=Tryz.sizeOf3
 v3:=Tryz.zeroValue3
 t4:=Tryz.underlying4
 a4:=Tryz.isAgg4
 z4:=Tryz.sizeOf4
 v4:=Tryz.zeroValue4
 t22:=Tryz.underlying184
 a22:=Tryz.isAgg184
 z22:=Tryz.sizeOf184
 v22:=Tryz.zeroValue184
 i3:=by kernel_rfl}
end Go.Proofs
namespace Go.Proofs.YtndkeknbfbdeeaaGreatDoor
open Go
variable {v:AV}{H H' H0:Ai}{t:Ao}{f:FuncId}{e:Int}{V:Nat->Bool}{dst:Option Nat}
def Ma(e:Int):AV:=.iface th (.agg [.int .i64 e])
def A5d(e:Int):(Ma e).strip=Ma e:=by simp[Ma,AV.strip,Ce]
def Aa7(n:Nat)(e:Int):(Ma e).inScope n=true:=by simp[Ma,AV.inScope,A0]
def Ft(P:Program)(f:FuncId)(args:List AV)(H:List HB)(e:Int)(H':List HB):Prop:=N6 P f args H fun o K=>o= .pan (Ma e)/\K=H'
@[reducible] def K5(e:Int)(H':List HB):D6:=⟨fun v K=>v.strip=Ma e/\∃L,K=H'++L⟩
def Ft.of{P:Program}{ac:AC}{n:Nat}{rs:List Gp}(hf:Nk P f ac n rs){args:Ao}(hl:H.length<=H'.length)(A8:Be H'.length H'=true)(h: @A9 (K5 e H') P ac (start args n) H (fun _ _ _=>False)):Ft P f args H e H':=by
 refine⟨hf.en,fun F g w vs hG hs hr=>?_⟩;obtain⟨fn,c,h1,h2,h3,h4,h5⟩:=hf.fn;refine calls_of_wp h1 h2 ?_;have hlen:=H5 hr
 have Ur:Tm F g w (start args n) {tmps:=vs.toArray++Array.replicate (fn.ntmps-vs.toArray.size) undef,defers:=[]}:=by
  show RL F g w _ _;simp only[start,Wi,Zr,Tu,h4,hlen];exact Ld hr (Wr Hk _)
 refine wp_mono (h c h3 F g w _ ⟨hs,Ur,rfl,hG⟩) ?_;rintro e' a' w' (⟨_,_,_,_,_,_,h,_⟩|⟨v,u,K,F',g',rfl,hv,⟨hb,L,rfl⟩,Cv,hd,Xo⟩)
 . exact h.elim
 obtain⟨g2,e1,e2,e3⟩:=St.forget Cv Xo hl A8 hs.beyond;exact⟨hd,.pan (Ma e),H',F',g2,⟨rfl,rfl⟩,e2,e3,u,rfl,Mo e1 (Ma e) u (Aa7 _ _) (hb▸Ww v u hv)⟩
def N6.fits{P:Program}{args:Ao}{Q:Out->Ai->Prop}(he:Qw P f=true)(h:Bl args->N6 P f args H Q):N6 P f args H Q:=
 ⟨he,fun F g w vs hG hs hr=>(h (Z1 _ _ hr)).2 F g w vs hG hs hr⟩
def Ft.go{P:Program}(hm:P.follows .mixedOrders=true){ac:AC}{n:Nat}{rs:List Gp}(hf:Nk P f ac n rs){args:Ao}(hl:H.length<=H'.length)(A8:Be H'.length H'=true)
 (h:Bl args->@WP (K5 e H') P ac [] (fun _ _ _=>False) (start args n) H):Ft P f args H e H':=
 N6.fits hf.en fun Am=>Ft.of hf hl A8 (@A9.of (K5 e H') P hm _ _ _ _ (h Am))
def Ft.lift{P:Program}{args:Ao}(h:Ft P f args [] e [])(ha:A0 0 args=true)(H:Ai):Ft P f args H e H:=by
 refine⟨h.1,fun F g w vs hG hs Kz=>?_⟩;let g0:Gh:=⟨fun _=>none,fun _=>none⟩;have Ij:St F g0 [] w:=⟨hs.live,fun _ _=>⟨rfl,rfl⟩,fun _ _ _ h=>(by cases h),fun b cs h=>(by simp at h),fun t n k ty h=>(by simp at h),hs.spots,fun b e cs h=>(by simp at h),fun b ks h=>(by simp at h)⟩;refine(h.2 F g0 w vs hG Ij (N7 (n:=0) (fun b hb=>absurd hb (Jr b)) _ _ ha Kz)).mono ?_;rintro e2 w' ⟨o,K,F',g',⟨rfl,rfl⟩,Cv,hx,u,rfl,hv⟩;have hfr:∀B,B<w.heap.size->w'.heap[B]? =w.heap[B]?:=fun B hB=>hx.frame B hB fun b hb=>absurd hb (Jr b);have hK:Fi F g w F' g w':=⟨hx.sub,hx.keep,Gh.le_refl g⟩
 have Oi:∀a,F' a->F a\/w.heap.size<=a.block:=fun a h=>by
  rcases hx.new a h with h|h|⟨t,ht,_⟩
  . exact .inl h
  . exact .inr h
  exact absurd ht (Jr t)
 refine⟨.pan (Ma e),H,F',g,⟨rfl,rfl⟩,⟨Cv.live,hs.beyond,hs.inj,fun b cs hb=>?_,fun t n k ty ht=>?_,Cv.spots,fun b e cs hb=>?_,fun b ks hb=>?_⟩,⟨hx.sub,hx.keep,Gh.le_refl g,hx.size,fun B hB _=>hfr B hB,fun a ha=>(Oi a ha).imp id .inl,fun b B hb h=>.inl ⟨hb,h⟩,Bm _,hx.io⟩,u,rfl,Mo (n:=0) (fun b hb=>absurd hb (Jr b)) _ _ (Aa7 _ _) hv⟩
 . obtain⟨B,us,e,q1,q2,q3,q4,q5⟩:=hs.var b cs hb
   exact⟨B,us,e,q1,q2,(hfr B (D1 q3)).trans q3,RL.mono hK _ _ q4,fun off h=>by
    rcases Oi _ h with h|h
    . exact q5 off h
    have:=D1 q3;simp only at h;omega⟩
 . obtain⟨B,cap,us,e,fr,q1,q2,q3,q4,q5,q6⟩:=hs.tok t n k _ ht
   exact⟨B,cap,us,e,fr,q1,q2,(hfr B (D1 q3)).trans q3,q4,q5,fun off ho h=>by
    rcases Oi _ h with h|h
    . exact q6 off ho h
    have:=D1 q3;simp only at h;omega⟩
 . obtain⟨B,us,q1,q2,q3,q4,q5⟩:=hs.tvar b e cs hb
   exact⟨B,us,q1,q2,(hfr B (D1 q3)).trans q3,RL.mono hK _ _ q4,fun off h=>by
    rcases Oi _ h with h|h
    . exact q5 off h
    have:=D1 q3;simp only at h;omega⟩
 rcases hs.mp b _ hb with q|⟨B,es,ck,q1,q2,q3,q4⟩
 . exact .inl q
 exact .inr ⟨B,es,ck,q1,q2,(hfr B (D1 q3)).trans q3,q4⟩
def N6.args{P:Program}{args args':Ao}{Q:Out->Ai->Prop}(h:N6 P f args' H Q)(he:Ce args=args'):N6 P f args H Q:=
 ⟨h.1,fun F g w vs hG hs hr=>h.2 F g w vs hG hs (he▸Ws _ _ hr)⟩
def Ft.res{P:Program}{args:Ao}(h:Ft P f args H e H')(hh:∃L,H'=H0++L)(v:AV)(K:Ai): @Yc (K5 e H0) P f args H v K:=
 h.mono fun o K' ⟨h1,h2⟩=>.inr ⟨Ma e,h1,A5d e,h2▸hh⟩
def A28{P:Program}{n:FuncId}{args first cap:Ao}{l:B8}{k:I7}{Q:Co}(h:Ft P n (first ++args++cap) H e H')(hh:∃L,H'=H0++L): @CALL (K5 e H0) P (.fn (.func n) first cap) args dst l k Q t H:=
 letI:=K5 e H0
 A29 (H':=H') (h.res hh _ _)
def Ve{P:Program}{n:FuncId}{args args0:Ao}{l:B8}{k:I7}{Q:Co}(h:Ft P n args0 [] e [])(ha:A0 0 args0=true)(he:Ce args=args0)(hh:∃L,H=H0++L): @CALL (K5 e H0) P (.fn (.func n) [] []) args dst l k Q t H:=
 A28 (by simpa[Ft]using N6.args (h.lift ha H) he) hh
def Agy{P:Program}{nq:Ck}{HV:Ai}{m:Nat}{n:FuncId}{args args0:Ao}(r:AV){l:B8}{k:I7}{Q:Co}(h:Ft P n args0 [] e [])(ha:A0 0 args0=true)(he:Ce args=args0)(hh:∀H,Ev V HV H->∃L,H=H0++L)
 (hn: @DR (K5 e H0) P V nq HV (m+1) l k Q (Cd t dst r) H): @Wk (K5 e H0) P V nq HV m (.fn (.func n) [] []) args dst l k Q t H:=
 letI:=K5 e H0
 A3g (fun H hk=>Ft.res (H':=H) (by simpa[Ft]using N6.args (h.lift ha H) he) (hh H hk) _ _) hn
section
open Go.Lib
def xj(d:DataW Unit):Array Value:=match d with
 | .agg l=>(l.map fun x=>match x with
   | .lit (.int k z)=>Value.int k z
   |_=>.nilIface).toArray
 |_=>#[]
noncomputable def nu(os:Os):World:=
 let N:=(World.settled Tryz.prog os).heap.size
 let w0:=World.holding Tryz.prog os ⟨#[
  .cells #[.string ⟨#[118,97,108,117,101,32,111,117,116,32,111,102,32,114,97,110,103,101]⟩] 342,
  .cells #[.string ⟨#[105,110,118,97,108,105,100,32,115,121,110,116,97,120]⟩] 342,
  .cells #[.slice (some ⟨N+3,0,none⟩) 7 7,.slice none 0 0,.int .i64 2] 357,
  .cells (([9,13,1,32,133,101,160,5760,5600,8192,8202,1,8232,8233,1,8239,8287,48,12288,12288,1]:List Int).map fun z=>Value.int .u16 z).toArray 360],#[],[]⟩
 let put (h:Array Obj) (g:Nat) (cs:Array Value):Array Obj:=h.modify g fun
  | .cells _ t frozen=>.cells cs t frozen
  |o=>o
 let h0:=put w0.heap 0 (xj Rows.laid_internal_strconv_uint64pow10)
 let h1:=put h0 3 #[.iface 340 (.pointer (some ⟨N,0,none⟩))]
 let h2:=put h1 2 #[.iface 340 (.pointer (some ⟨N+1,0,none⟩))]
 let h3:=put h2 4 (xj Rows.laid_math_bits_deBruijn32tab)
 let h4:=put h3 5 (xj Rows.laid_math_bits_deBruijn64tab)
 let h5:=put h4 6 (xj Rows.laid_strings_asciiSpace)
 let h6:=put h5 7 #[.pointer (some ⟨N+2,0,none⟩)]
 {w0 with heap:=h6}
noncomputable abbrev N0:Nat:=(World.settled Tryz.prog default).heap.size
def Ba0(os:Os)(args:Array Value):LaidIn Tryz.prog ((nu os).forCall (fun _ _=>0) ⟨#[],args,[]⟩).memory Rows.liftAppliesUptoRow.laid [4,5,0,3,N0,2,N0+1,7,N0+2,N0+3,6]:=
 LaidIn.of_run [4,5,0,3,N0,2,N0+1,7,N0+2,N0+3,6] 12 A5 A5 A5 A5
def Ba1(os:Os)(args:Array Value):laidMet Tryz.prog Rows.liftAppliesUptoRow.laid ((nu os).forCall (fun _ _=>0) ⟨#[],args,[]⟩).memory:=(Ba0 os args).met
def zEl:Value:=.agg #[.slice none 0 0,.slice none 0 0,.bool false,.int .i64 0,.int .i64 0,.string ⟨#[]⟩,.int .i64 0,.int .i64 0,.string ⟨#[]⟩,.slice none 0 0,.slice none 0 0,.slice none 0 0,.slice none 0 0,.slice none 0 0,.slice none 0 0,.slice none 0 0,.slice none 0 0,.int .i64 0,.int .i64 0,.string ⟨#[]⟩,.int .i64 0,.int .i64 0,.string ⟨#[]⟩,.slice none 0 0,.slice none 0 0,.slice none 0 0,.int .i64 0,.int .i64 0,.string ⟨#[]⟩,.slice none 0 0,.slice none 0 0,.slice none 0 0,.slice none 0 0,.slice none 0 0,.slice none 0 0]
def pp:Array Value:=#[zEl,zEl,.slice none 0 0,.agg #[.int .i64 0,.int .i64 0,.string ⟨#[]⟩,.int .i64 0,.int .i64 0,.string ⟨#[]⟩,.slice none 0 0,.slice none 0 0,.slice none 0 0,.int .i64 0,.int .i64 0,.string ⟨#[]⟩,.slice none 0 0,.slice none 0 0,.slice none 0 0,.slice none 0 0,.slice none 0 0,.slice none 0 0]]
def A2x{H:Type} :DataW H:=.agg [.nil,.nil,.lit (.bool false),.agg [.lit (.int .i64 0),.lit (.int .i64 0),.lit (.string []),.agg [.lit (.int .i64 0),.lit (.int .i64 0),.lit (.string []),.agg [.nil],.nil,.nil],.agg [.nil],.nil,.nil,.nil,.nil],.agg [.lit (.int .i64 0),.lit (.int .i64 0),.lit (.string []),.agg [.lit (.int .i64 0),.lit (.int .i64 0),.lit (.string []),.agg [.nil],.nil,.nil],.agg [.lit (.int .i64 0),.lit (.int .i64 0),.lit (.string []),.agg [.nil],.nil,.nil],.agg [.nil],.nil,.nil]]
def zRead{H:Type} :List (DataW H):=[A2x,A2x,.nil,.agg [.lit (.int .i64 0),.lit (.int .i64 0),.lit (.string []),.agg [.lit (.int .i64 0),.lit (.int .i64 0),.lit (.string []),.agg [.nil],.nil,.nil],.agg [.lit (.int .i64 0),.lit (.int .i64 0),.lit (.string []),.agg [.nil],.nil,.nil],.agg [.nil],.nil,.nil]]
def Bsp(os:Os){H:Type}(enc:TypeId×Value->H):
 (Rows.OpenSpec.upto Rows.liftAppliesSpec).preRow enc Tryz.prog Tryz.f3 Rows.liftAppliesUptoRow.domain false Rows.liftAppliesUptoRow.laid ((nu os).forCall (fun _ _=>0) ⟨#[],pp,[]⟩).memory pp:=by
 have hw:(DataW.whole enc Tryz.prog ((nu os).forCall (fun _ _=>0) ⟨#[],pp,[]⟩).memory Tryz.f3.params.toList (Rows.OpenSpec.upto Rows.liftAppliesSpec).vars false pp.toList 8).map (fun x=>(x.1,x.2.1))=
  some (zRead,[]):=A5
 obtain⟨⟨x1,x2,x3⟩,hx,Fd⟩:=Option.map_eq_some_iff.1 hw;simp only[Cg]at Fd;obtain⟨rfl,rfl⟩:=Fd;exact OpenSpec.preRow_of_cond 8 hx A5 (fun k hk=>by cases hk;kernel_rfl) A5 (Ba1 os _)
def own:ownKnob Tryz.prog.godebug=none:=A5
def Bso(os:Os){H:Type}(enc:TypeId×Value->H):∃(w:World) (tape:Tape) (i:Input),w.os=os/\(w.forCall tape i).Shaped Tryz.checked.prog/\i.vars=[]/\Input.okWide Tryz.checked.prog (w.forCall tape i) .any w.heap.size 3 i/\
 (Rows.OpenSpec.upto Rows.liftAppliesSpec).preRow enc Tryz.checked.prog Tryz.f3 Rows.liftAppliesUptoRow.domain false Rows.liftAppliesUptoRow.laid (w.forCall tape i).memory i.args/\({} :Assume).holds Tryz.checked.prog (lone (Frame.enter Tryz.checked.prog 3 i.args .normal) [] (w.forCall tape i)):=
 witness_row_atRef (enc:=enc) (C:=Tryz.checked) false (nu os) pp rfl A5 A5 A5 (Bsp os enc)
end
section
open Go.ChangeShapes Go.Lib
def Hl{a b:Bool}(h:a=true)(k:b=true):(a&&b)=true:=by rw[h,k]; rfl
noncomputable abbrev jP:=Tryz.prog
noncomputable abbrev jc:=Rows.liftAppliesUptoRow
noncomputable abbrev js:=(Rows.OpenSpec.upto Rows.liftAppliesSpec).bare
noncomputable abbrev jf:=Tryz.f3
def jf1:jc.wf (OpenSpec.ofChange js)=true:=A5
def jf2:laidOutB jP=true:=A5
def jf3:mapsRowed jP=true:=A5
def jf4:jf.params.all (jP.readableRec ·)=true:=A5
def jf5:namedTie jP jc.named js.vars=true:=A5
def jf6:(jc.stops == [])=true:=A5
def jf7:(jP.stops == [])=true:=A5
def jf8:(jc.knobs == [])=true:=A5
def jf9:(jP.stopKnobs == [])=true:=A5
def jf10:(jc.inPlace==jP.inPlace 3)=true:=A5
def jf11:(jc.unfollowed==jP.unfollowed 3)=true:=A5
def jf12:(jc.recurses==jP.recurses 3)=true:=A5
def jf13:(jc.named==jP.varsNamed 3)=true:=A5
def jf14:(jc.maps==(jf.params.toList++js.plain.varTypes jP).any (jP.mapsRec ·))=true:=A5
def jf15:(jc.ifaces==(jf.params.toList++js.plain.varTypes jP).any (jP.ifacesRec ·))=true:=A5
def jf16:(jc.mapsOut==jP.mapsAmong jf.resultTypes.toList)=true:=A5
def jf17:(jc.loops==(jf.params.toList++js.plain.varTypes jP).any (jP.loopsFrom ·))=true:=A5
def jf18:(jc.wideKeys==(jf.params.toList++js.plain.varTypes jP++jf.resultTypes.toList).any (jP.wideKeysFrom ·))=true:=A5
def jf19:js.vars.all (jP.varReadable ·)=true:=A5
def jf20:jf.resultTypes.all (fun t=>jP.readableRec t&&decide (t<jP.types.size))=true:=A5
def jf21:(jc.ifacesOut==jf.resultTypes.toList.any (jP.ifacesRec ·))=true:=A5
def jf22:(jc.loopsOut==jf.resultTypes.toList.any (jP.loopsFrom ·))=true:=A5
def jf23:(jc.plainKeys==jP.plainKeys)=true:=A5
def jf24:jc.shortTexts.isNone=true:=A5
def jf25:jP.stopsHeard=true:=A5
def jf26:jP.mayEnter=true:=A5
def jf27:(jc.lifted==jP.liftsFinal)=true:=A5
def jf28:(jP.make==some jc.make)=true:=A5
def jf29:(jc.kinds==(if jc.domain.isEmpty then []else jf.params.toList.map fun t=>match jP.underlying t with |some (.int k)=>some k|_=>none))=true:=A5
def jf30:(jc.pinned==jc.pinnedBy)=true:=A5
def jf31:(jc.veiled==(jf.params.toList++js.plain.varTypes jP++jf.resultTypes.toList).any (jP.veiledRec ·))=true:=A5
def jf32:jc.veiledFits jP jf.params.toList (jf.params.toList++js.plain.varTypes jP++jf.resultTypes.toList)=true:=A5
def Bai:Tryz.checked.prog.funcNamed Rows.liftAppliesUptoRow.func=some 3:=A5
def Bag:joinedFacts Tryz.checked.prog 3 Tryz.f3 js jc=true:=by
 unfold joinedFacts;exact Hl (Hl (Hl (Hl (Hl (Hl (Hl (Hl (Hl (Hl (Hl (Hl (Hl (Hl (Hl (Hl (Hl (Hl (Hl (Hl (Hl (Hl (Hl (Hl (Hl (Hl (Hl (Hl (Hl (Hl (Hl jf1 jf2) jf3) jf4) jf5) jf6) jf7) jf8) jf9) jf10) jf11) jf12) jf13) jf14) jf15) jf16) jf17) jf18) jf19) jf20) jf21) jf22) jf23) jf24) jf25) jf26) jf27) jf28) jf29) jf30) jf31) jf32
def Bah:Tryz.f3.isInstance Tryz.checked.prog Rows.liftAppliesUptoRow.origin Rows.liftAppliesUptoRow.targs:=Sl A5
def Baj:Tryz.f3.isWrapper Tryz.checked.prog Rows.liftAppliesUptoRow.wrapper Rows.liftAppliesUptoRow.mainSum:=by
 unfold Func.isWrapper;first |(rw[Ae (by decide+kernel)]; kernel_rfl)|(rw[Ac (by decide+kernel)]; exact⟨rfl,rfl⟩)
end
