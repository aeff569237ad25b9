/- Joined: R0 Jf. -/
import Derived.Test.YtemdkfnenjpioaaGreatDoorG05
import Derived.Test.YtemdkfnenjpioaaGreatDoorRows
import Derived.Deep.DeepHandedRow
import Derived.Deep.DeepWitnessRowRef
import Derived.Lib.LaidIn
import Derived.Lib.LaidTab
import Derived.Stop.LaidErr
import Derived.ProofKit
import Derived.JoinedCond
set_option linter.unusedSimpArgs false
set_option linter.unusedVariables false
set_option linter.unusedSectionVars false
set_option linter.all false
set_option maxHeartbeats 4000000
set_option maxRecDepth 10000
namespace Go.Proofs.YtemdkfnenjpioaaGreatDoor
open Go Go.Lib
set_option maxRecDepth 100000
def X4 (d:DataW Unit):Array Value:=match d with
 | .agg l=>(l.map fun x=>match x with
   | .lit (.int k z)=>Value.int k z
   | _=>.nilIface).toArray
 | _=>#[]
noncomputable def R2 (os:Os):World:=
 let N:=(World.settled Tryz.prog os).heap.size
 let w0:=World.holding Tryz.prog os ⟨#[
  .cells #[.string ⟨#[118,97,108,117,101,32,111,117,116,32,111,102,32,114,97,110,103,101]⟩] 298,
  .cells #[.string ⟨#[105,110,118,97,108,105,100,32,115,121,110,116,97,120]⟩] 298,
  .cells #[.slice (some ⟨N+3,0,none⟩) 7 7,.slice none 0 0,.int .i64 2] 313,
  .cells (([9,13,1,32,133,101,160,5760,5600,8192,8202,1,8232,8233,1,8239,8287,48,12288,12288,1]:List Int).map fun z=>Value.int .u16 z).toArray 316],#[],[]⟩
 let put (h:Array Obj) (g:Nat) (cs:Array Value):Array Obj:=h.modify g fun
  | .cells _ t frozen=>.cells cs t frozen
  | o=>o
 let h0:=put w0.heap 0 (X4 Rows.laid_internal_strconv_uint64pow10)
 let h1:=put h0 3 #[.iface 296 (.pointer (some ⟨N,0,none⟩))]
 let h2:=put h1 2 #[.iface 296 (.pointer (some ⟨N+1,0,none⟩))]
 let h3:=put h2 4 (X4 Rows.laid_math_bits_deBruijn32tab)
 let h4:=put h3 5 (X4 Rows.laid_math_bits_deBruijn64tab)
 let h5:=put h4 6 (X4 Rows.laid_strings_asciiSpace)
 let h6:=put h5 7 #[.pointer (some ⟨N+2,0,none⟩)]
 { w0 with heap:=h6 }
noncomputable abbrev N0:Nat:=(World.settled Tryz.prog default).heap.size
theorem laid_in (os:Os) (args:Array Value):LaidIn Tryz.prog ((R2 os).forCall (fun _ _=>0) ⟨#[],args,[]⟩).memory Rows.liftHidesUptoRow.laid [4,5,0,3,N0,2,N0+1,7,N0+2,N0+3,6]:=
 LaidIn.of_run [4,5,0,3,N0,2,N0+1,7,N0+2,N0+3,6] 12 (by kernel_rfl) (by kernel_rfl) (by kernel_rfl) (by kernel_rfl)
theorem laid_met (os:Os) (args:Array Value):laidMet Tryz.prog Rows.liftHidesUptoRow.laid ((R2 os).forCall (fun _ _=>0) ⟨#[],args,[]⟩).memory:=(laid_in os args).met
def Ri:Array Value:=#[.agg #[.slice none 0 0,.slice none 0 0,.bool false,.int .i64 0,.int .i64 0,.string ⟨#[]⟩,.int .i64 0,.int .i64 0,.string ⟨#[]⟩,.slice none 0 0,.slice none 0 0,.slice none 0 0,.slice none 0 0,.slice none 0 0,.slice none 0 0,.slice none 0 0,.slice none 0 0,.int .i64 0,.int .i64 0,.string ⟨#[]⟩,.int .i64 0,.int .i64 0,.string ⟨#[]⟩,.slice none 0 0,.slice none 0 0,.slice none 0 0,.int .i64 0,.int .i64 0,.string ⟨#[]⟩,.slice none 0 0,.slice none 0 0,.slice none 0 0,.slice none 0 0,.slice none 0 0,.slice none 0 0],.agg #[.slice none 0 0,.int .i64 0,.int .i64 0,.string ⟨#[]⟩,.int .i64 0,.int .i64 0,.string ⟨#[]⟩,.slice none 0 0,.slice none 0 0,.slice none 0 0,.slice none 0 0,.slice none 0 0,.slice none 0 0,.slice none 0 0,.slice none 0 0],.slice none 0 0,.agg #[.int .i64 0,.int .i64 0,.string ⟨#[]⟩,.int .i64 0,.int .i64 0,.string ⟨#[]⟩,.slice none 0 0,.slice none 0 0,.slice none 0 0,.int .i64 0,.int .i64 0,.string ⟨#[]⟩,.slice none 0 0,.slice none 0 0,.slice none 0 0,.slice none 0 0,.slice none 0 0,.slice none 0 0]]
def zRead {H:Type} :List (DataW H):=[.agg [.nil,.nil,.lit (.bool false),.agg [.lit (.int .i64 0),.lit (.int .i64 0),.lit (.string []),.agg [.lit (.int .i64 0),.lit (.int .i64 0),.lit (.string []),.agg [.nil],.nil,.nil],.agg [.nil],.nil,.nil,.nil,.nil],.agg [.lit (.int .i64 0),.lit (.int .i64 0),.lit (.string []),.agg [.lit (.int .i64 0),.lit (.int .i64 0),.lit (.string []),.agg [.nil],.nil,.nil],.agg [.lit (.int .i64 0),.lit (.int .i64 0),.lit (.string []),.agg [.nil],.nil,.nil],.agg [.nil],.nil,.nil]],.agg [.nil,.agg [.lit (.int .i64 0),.lit (.int .i64 0),.lit (.string []),.agg [.lit (.int .i64 0),.lit (.int .i64 0),.lit (.string []),.agg [.nil],.nil,.nil],.agg [.nil],.nil,.nil,.nil,.nil]],.nil,.agg [.lit (.int .i64 0),.lit (.int .i64 0),.lit (.string []),.agg [.lit (.int .i64 0),.lit (.int .i64 0),.lit (.string []),.agg [.nil],.nil,.nil],.agg [.lit (.int .i64 0),.lit (.int .i64 0),.lit (.string []),.agg [.nil],.nil,.nil],.agg [.nil],.nil,.nil]]
theorem Awt (os:Os) {H:Type} (enc:TypeId × Value→H):
 (Rows.OpenSpec.upto Rows.liftHidesSpec).preRow enc Tryz.prog Tryz.f3 Rows.liftHidesUptoRow.domain false Rows.liftHidesUptoRow.laid ((R2 os).forCall (fun _ _=>0) ⟨#[],Ri,[]⟩).memory Ri:=by
 have hw:(DataW.whole enc Tryz.prog ((R2 os).forCall (fun _ _=>0) ⟨#[],Ri,[]⟩).memory Tryz.f3.params.toList (Rows.OpenSpec.upto Rows.liftHidesSpec).vars false Ri.toList 8).map (fun x=>(x.1,x.2.1))=
  some (zRead,[]):=by kernel_rfl
 obtain⟨⟨x1,x2,x3⟩,hx,hx1⟩:=Option.map_eq_some_iff.1 hw
 simp only[Prod.mk.injEq] at hx1
 obtain⟨rfl,rfl⟩:=hx1
 exact OpenSpec.preRow_of_cond 8 hx (by kernel_rfl) (fun k hk=>by cases hk;kernel_rfl) (by kernel_rfl) (laid_met os _)
theorem own:ownKnob Tryz.prog.godebug=none:=by kernel_rfl
theorem witness (os:Os) {H:Type} (enc:TypeId × Value→H): ∃(w:World) (tape:Tape) (i:Input),w.os=os∧(w.forCall tape i).Shaped Tryz.checked.prog∧i.vars=[]∧Input.okWide Tryz.checked.prog (w.forCall tape i) .any w.heap.size 3 i∧
 (Rows.OpenSpec.upto Rows.liftHidesSpec).preRow enc Tryz.checked.prog Tryz.f3 Rows.liftHidesUptoRow.domain false Rows.liftHidesUptoRow.laid (w.forCall tape i).memory i.args∧({} :Assume).holds Tryz.checked.prog (lone (Frame.enter Tryz.checked.prog 3 i.args .normal) [] (w.forCall tape i)):=
 witness_row_atRef (enc:=enc) (C:=Tryz.checked) false (R2 os) Ri rfl (by kernel_rfl) (by kernel_rfl) (by kernel_rfl) (Awt os enc)
end Go.Proofs.YtemdkfnenjpioaaGreatDoor
namespace Go.Proofs.YtemdkfnenjpioaaGreatDoor
open Go Go.ChangeShapes Go.Lib
set_option maxRecDepth 100000
theorem C8 {a b:Bool} (h:a=true) (k:b=true):(a && b)=true:=by rw[h,k]; rfl
noncomputable abbrev jP:=Tryz.prog
noncomputable abbrev jc:=Rows.liftHidesUptoRow
noncomputable abbrev js:=(Rows.OpenSpec.upto Rows.liftHidesSpec).bare
noncomputable abbrev jf:=Tryz.f3
theorem jf1:jc.wf (OpenSpec.ofChange js)=true:=by kernel_rfl
theorem jf2:laidOutB jP=true:=by kernel_rfl
theorem jf3:mapsRowed jP=true:=by kernel_rfl
theorem jf4:jf.params.all (jP.readableRec ·)=true:=by kernel_rfl
theorem jf5:namedTie jP jc.named js.vars=true:=by kernel_rfl
theorem jf6:(jc.stops == [])=true:=by kernel_rfl
theorem jf7:(jP.stops == [])=true:=by kernel_rfl
theorem jf8:(jc.knobs == [])=true:=by kernel_rfl
theorem jf9:(jP.stopKnobs == [])=true:=by kernel_rfl
theorem jf10:(jc.inPlace == jP.inPlace 3)=true:=by kernel_rfl
theorem jf11:(jc.unfollowed == jP.unfollowed 3)=true:=by kernel_rfl
theorem jf12:(jc.recurses == jP.recurses 3)=true:=by kernel_rfl
theorem jf13:(jc.named == jP.varsNamed 3)=true:=by kernel_rfl
theorem jf14:(jc.maps == (jf.params.toList++js.plain.varTypes jP).any (jP.mapsRec ·))=true:=by kernel_rfl
theorem jf15:(jc.ifaces == (jf.params.toList++js.plain.varTypes jP).any (jP.ifacesRec ·))=true:=by kernel_rfl
theorem jf16:(jc.mapsOut == jP.mapsAmong jf.resultTypes.toList)=true:=by kernel_rfl
theorem jf17:(jc.loops == (jf.params.toList++js.plain.varTypes jP).any (jP.loopsFrom ·))=true:=by kernel_rfl
theorem jf18:(jc.wideKeys == (jf.params.toList++js.plain.varTypes jP++jf.resultTypes.toList).any (jP.wideKeysFrom ·))=true:=by kernel_rfl
theorem jf19:js.vars.all (jP.varReadable ·)=true:=by kernel_rfl
theorem jf20:jf.resultTypes.all (fun t=>jP.readableRec t && decide (t < jP.types.size))=true:=by kernel_rfl
theorem jf21:(jc.ifacesOut == jf.resultTypes.toList.any (jP.ifacesRec ·))=true:=by kernel_rfl
theorem jf22:(jc.loopsOut == jf.resultTypes.toList.any (jP.loopsFrom ·))=true:=by kernel_rfl
theorem jf23:(jc.plainKeys == jP.plainKeys)=true:=by kernel_rfl
theorem jf24:jc.shortTexts.isNone=true:=by kernel_rfl
theorem jf25:jP.stopsHeard=true:=by kernel_rfl
theorem jf26:jP.mayEnter=true:=by kernel_rfl
theorem jf27:(jc.lifted == jP.liftsFinal)=true:=by kernel_rfl
theorem jf28:(jP.make == some jc.make)=true:=by kernel_rfl
theorem jf29:(jc.kinds == (if jc.domain.isEmpty then [] else jf.params.toList.map fun t=>match jP.underlying t with | some (.int k)=>some k | _=>none))=true:=by kernel_rfl
theorem jf30:(jc.pinned == jc.pinnedBy)=true:=by kernel_rfl
theorem jf31:(jc.veiled == (jf.params.toList++js.plain.varTypes jP++jf.resultTypes.toList).any (jP.veiledRec ·))=true:=by kernel_rfl
theorem jf32:jc.veiledFits jP jf.params.toList (jf.params.toList++js.plain.varTypes jP++jf.resultTypes.toList)=true:=by kernel_rfl
theorem jf_name:Tryz.checked.prog.funcNamed Rows.liftHidesUptoRow.func=some 3:=by kernel_rfl
theorem jf_all:joinedFacts Tryz.checked.prog 3 Tryz.f3 js jc=true:=by
 unfold joinedFacts
 exact C8 (C8 (C8 (C8 (C8 (C8 (C8 (C8 (C8 (C8 (C8 (C8 (C8 (C8 (C8 (C8 (C8 (C8 (C8 (C8 (C8 (C8 (C8 (C8 (C8 (C8 (C8 (C8 (C8 (C8 (C8 jf1 jf2) jf3) jf4) jf5) jf6) jf7) jf8) jf9) jf10) jf11) jf12) jf13) jf14) jf15) jf16) jf17) jf18) jf19) jf20) jf21) jf22) jf23) jf24) jf25) jf26) jf27) jf28) jf29) jf30) jf31) jf32
theorem jf_inst:Tryz.f3.isInstance Tryz.checked.prog Rows.liftHidesUptoRow.origin Rows.liftHidesUptoRow.targs:=of_decide_eq_true (by kernel_rfl)
theorem jf_wrap:Tryz.f3.isWrapper Tryz.checked.prog Rows.liftHidesUptoRow.wrapper Rows.liftHidesUptoRow.mainSum:=by
 unfold Func.isWrapper;first | (rw[if_pos (by decide+kernel)]; kernel_rfl) | (rw[if_neg (by decide+kernel)]; exact⟨rfl,rfl⟩)
end Go.Proofs.YtemdkfnenjpioaaGreatDoor
