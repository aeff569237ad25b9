/- Joined: Bld. -/
import Derived.Lib.Builder
import Derived.Lib.UnsafeStr
import Derived.Laws.Externs
import Derived.Lib.Walk
import Derived.WalkKit
import Derived.Shelf.Abstract
import Derived.Test.YtemdkfnenjpioaaGreatDoorG01
import Derived.Test.YtemdkfnenjpioaaGreatDoorProg
set_option linter.unusedSimpArgs false
set_option linter.unusedVariables false
set_option linter.unusedSectionVars false
set_option linter.all false
set_option maxHeartbeats 4000000
set_option maxRecDepth 10000
namespace Go.Proofs.YtemdkfnenjpioaaGreatDoor
open Go Go.RowKit Go.Shelf Go.Proofs
theorem Aj8:(Tryz.prog.info? 102).map (·.size)=some 2:=by kernel_rfl
set_option maxHeartbeats 1000000 in
set_option maxRecDepth 100000 in
theorem Ayg (b:Nat) (w:World) (h0:w.cell? ⟨b,0,none⟩=some (.pointer (some ⟨b,0,none⟩))):
 Calls Tryz.prog 203 #[.pointer (some ⟨b,0,none⟩)] w fun e w'=>e= .returned (.tuple #[])∧w'=w:=by
 obtain⟨j,hj,_⟩:=Option.map_eq_some_iff.1 Aj8
 go_enter Tryz.func203,Tryz.ntmps203
 go_wp2
 rw[Lib.run_neq_ptr_same w _ Tryz.underlying99 hj]
 go_wp2
 go_end0
 exact⟨rfl,rfl⟩
set_option maxHeartbeats 1000000 in
set_option maxRecDepth 100000 in
theorem Asr (b:Nat) (e:TypeId) (w:World) (h0:w.cell? ⟨b,0,none⟩=some (.pointer none)) (hsh:w.shape? b=some (e,2)) (hlie:liesAt Tryz.prog Tryz.prog.depth e (2 / Tryz.prog.cellsOf e) 0 102 1=true) (hfz:w.frozen? ⟨b,0,none⟩=false):
 Calls Tryz.prog 203 #[.pointer (some ⟨b,0,none⟩)] w fun e w'=>e= .returned (.tuple #[])∧w'=w.setCell ⟨b,0,none⟩ (.pointer (some ⟨b,0,none⟩)):=by
 obtain⟨j,hj,hjs⟩:=Option.map_eq_some_iff.1 Aj8
 go_enter Tryz.func203,Tryz.ntmps203
 go_wp2
 rw[Lib.run_to_unsafe w ⟨b,0,none⟩ Tryz.underlying99 Tryz.underlying235 hj (by rw[hjs]; decide) hsh (Nat.zero_lt_succ 1)]
 simp only[Result.andThen]
 rw[Oper.upon_value]
 go_wp2
 rw[run_callFunc_extern Tryz.func228 (by kernel_rfl) (by kernel_rfl) (by kernel_rfl) (e:=Extern.AbiNoEscape.same) (by kernel_rfl)]
 rw[Lib.run_noEscape]
 simp only[Result.andThen]
 rw[Oper.upon_value]
 go_wp2
 rw[Lib.run_from_unsafe w ⟨b,0,none⟩ Tryz.underlying235 Tryz.underlying99 hj hsh hlie]
 simp only[Result.andThen]
 rw[Oper.upon_value]
 go_wp2
 go_end0
 exact⟨rfl,rfl⟩
theorem lies102:liesAt Tryz.prog Tryz.prog.depth 102 (2 / Tryz.prog.cellsOf 102) 0 102 1=true:=by kernel_rfl
theorem lies104:liesAt Tryz.prog Tryz.prog.depth 104 (2 / Tryz.prog.cellsOf 104) 0 102 1=true:=by kernel_rfl
theorem Azw:Tryz.prog.cellsOf 5=1:=by kernel_rfl
set_option maxHeartbeats 2000000 in
set_option maxRecDepth 100000 in
theorem Ayv (b g len cap el:Nat) (n:Nat) (l:List UInt8) (w:World) (h0:l≠[]) (hlen:l.length≤1073741824) (hc:w.cell? ⟨b,1,none⟩=some (.slice (some ⟨g,0,none⟩) l.length cap)) (hcap:l.length≤cap) (hsh:w.shape? g=some (5,n)) (hn:l.length≤n)
 (hb: ∀j x,l[j]? =some x→w.cell? ⟨g,j,none⟩=some (.int .u8 x.toNat)):
 Calls Tryz.prog 63 #[.pointer (some ⟨b,0,none⟩)] w fun e w'=>e= .returned (.string ⟨l.toArray⟩)∧w'=w.drew.freeze ⟨g,0,none⟩ l.length:=by
 have c1:w.drew.cell? ⟨b,1,none⟩=some (.slice (some ⟨g,0,none⟩) l.length cap):=hc
 have hl0:0 < l.length:=List.length_pos_iff.2 h0
 have hSD:(Builtin.unsafeSliceData_ #[100] 147 #[.slice (some ⟨g,0,none⟩) l.length cap]).run Tryz.prog w.drew= .ok (.pointer (some ⟨g,0,none⟩)) w.drew:=
  Lib.run_unsafeSliceData_row _ _ _ _ _ _ (by omega)
 have hUS:(Builtin.unsafeString_ #[147,3] 9 #[.pointer (some ⟨g,0,none⟩),.int .i64 l.length]).run Tryz.prog w.drew= .ok (.string ⟨l.toArray⟩) (w.drew.freeze ⟨g,0,none⟩ l.length):=by
  refine Lib.run_unsafeString_row w.drew 147 3 9 5 Tryz.underlying147 Azw g n hsh l h0 (by omega) (by omega) ?_
  intro j x hx
  rw[Iv,Nat.zero_add]
  exact hb j x hx
 go_enter Tryz.func63,Tryz.ntmps63
 go_wp2
 go_region
 all_goals (go_wp2;go_ret;exact⟨rfl,rfl⟩)
end Go.Proofs.YtemdkfnenjpioaaGreatDoor
