/- Joined: Pn. -/
import Derived.Test.YtemdkfnenjpioaaGreatDoorG12
set_option linter.unusedSimpArgs false
set_option linter.unusedVariables false
set_option linter.unusedSectionVars false
set_option linter.all false
set_option maxHeartbeats 4000000
set_option maxRecDepth 10000
namespace Go.Proofs.YtemdkfnenjpioaaGreatDoor
open Go
def Fz (e:Int):AV:=.iface gBrk (.agg [.int .i64 e])
theorem Az1 (e:Int):(Fz e).strip=Fz e:=by simp[Fz,AV.strip,Ay]
theorem Amb (n:Nat) (e:Int):(Fz e).inScope n=true:=by simp[Fz,AV.inScope,Am]
def Ch (P:Program) (f:FuncId) (args:List AV) (H:List HB) (e:Int) (H':List HB):Prop:=Gk P f args H fun o K=>o= .pan (Fz e)∧K=H'
@[reducible] def Dy (e:Int) (H':List HB):Cc:=⟨fun v K=>v.strip=Fz e∧∃L,K=H'++L⟩
theorem Ch.of {P:Program} {f:FuncId} {ac:AC} {n:Nat} {rs:List Dv} (hf:Ad P f ac n rs) {args:List AV} {H H':List HB} {e:Int} (hl:H.length≤H'.length) (hsc:As H'.length H'=true) (h: @AWp (Dy e H') P ac (start args n) H (fun _ _ _=>False)):Ch P f args H e H':=by
 refine⟨hf.en,fun F g w vs hG hs hr=>?_⟩
 obtain⟨fn,c,h1,h2,h3,h4,h5⟩:=hf.fn
 refine calls_of_wp h1 h2 ?_
 have hlen:=Dh hr
 have htm:Tm F g w (start args n) { tmps:=vs.toArray++Array.replicate (fn.ntmps - vs.toArray.size) undef,defers:=[] }:=by
  show RL F g w _ _
  simp only[start,Array.toList_append,Array.toList_replicate,List.size_toArray,h4,hlen]
  exact E0 hr (Mg Dc _)
 refine wp_mono (h c h3 F g w _ ⟨hs,htm,rfl,hG⟩) ?_
 rintro e' a' w' (⟨_,_,_,_,_,_,h,_⟩ | ⟨v,u,K,F',g',rfl,hv,⟨hb,L,rfl⟩,hs',hd,hext⟩)
 · exact h.elim
 · obtain⟨g2,e1,e2,e3⟩:=St.forget hs' hext hl hsc hs.beyond
   exact⟨hd,.pan (Fz e),H',F',g2,⟨rfl,rfl⟩,e2,e3,u,rfl,F9 e1 (Fz e) u (Amb _ _) (hb ▸ Mu v u hv)⟩
theorem Gk.fits {P:Program} {f:FuncId} {args:List AV} {H:List HB} {Q:Out→List HB→Prop} (he:Gu P f=true) (h:Bn args→Gk P f args H Q):Gk P f args H Q:=
 ⟨he,fun F g w vs hG hs hr=>(h (Nc _ _ hr)).2 F g w vs hG hs hr⟩
theorem Ch.go {P:Program} (hm:P.follows .mixedOrders=true) {f:FuncId} {ac:AC} {n:Nat} {rs:List Dv} (hf:Ad P f ac n rs) {args:List AV} {H H':List HB} {e:Int} (hl:H.length≤H'.length) (hsc:As H'.length H'=true)
 (h:Bn args→@WP (Dy e H') P ac [] (fun _ _ _=>False) (start args n) H):Ch P f args H e H':=
 Gk.fits hf.en fun hfit=>Ch.of hf hl hsc (@AWp.of (Dy e H') P hm _ _ _ _ (h hfit))
theorem Ch.lift {P:Program} {f:FuncId} {args:List AV} {e:Int} (h:Ch P f args [] e []) (ha:Am 0 args=true) (H:List HB):Ch P f args H e H:=by
 refine⟨h.1,fun F g w vs hG hs hrl=>?_⟩
 let g0:Gh:=⟨fun _=>none,fun _=>none⟩
 have hs0:St F g0 [] w:=⟨hs.live,fun _ _=>⟨rfl,rfl⟩,fun _ _ _ h=>(by cases h),fun b cs h=>(by simp at h),fun t n k ty h=>(by simp at h),hs.spots,fun b e cs h=>(by simp at h),fun b ks h=>(by simp at h)⟩
 refine (h.2 F g0 w vs hG hs0 (Fm (n:=0) (fun b hb=>absurd hb (Nat.not_lt_zero b)) _ _ ha hrl)).mono ?_
 rintro e2 w' ⟨o,K,F',g',⟨rfl,rfl⟩,hs',hx,u,rfl,hv⟩
 have hfr: ∀B,B < w.heap.size→w'.heap[B]? =w.heap[B]?:=fun B hB=>hx.frame B hB fun b hb=>absurd hb (Nat.not_lt_zero b)
 have hK:Cr F g w F' g w':=⟨hx.sub,hx.keep,Gh.le_refl g⟩
 have hnew: ∀a,F' a→F a∨w.heap.size≤a.block:=fun a h=>by
  rcases hx.new a h with h | h | ⟨t,ht,_⟩
  · exact .inl h
  · exact .inr h
  · exact absurd ht (Nat.not_lt_zero t)
 refine⟨.pan (Fz e),H,F',g,⟨rfl,rfl⟩,⟨hs'.live,hs.beyond,hs.inj,fun b cs hb=>?_,fun t n k ty ht=>?_,hs'.spots,fun b e cs hb=>?_,fun b ks hb=>?_⟩,⟨hx.sub,hx.keep,Gh.le_refl g,hx.size,fun B hB _=>hfr B hB,fun a ha=>(hnew a ha).imp id .inl,fun b B hb h=>.inl ⟨hb,h⟩,Nat.le_refl _,hx.io⟩,u,rfl,F9 (n:=0) (fun b hb=>absurd hb (Nat.not_lt_zero b)) _ _ (Amb _ _) hv⟩
 · obtain⟨B,us,e,q1,q2,q3,q4,q5⟩:=hs.var b cs hb
   exact⟨B,us,e,q1,q2,(hfr B (B9 q3)).trans q3,RL.mono hK _ _ q4,fun off h=>by
    rcases hnew _ h with h | h
    · exact q5 off h
    · have:=B9 q3;simp only at h;omega⟩
 · obtain⟨B,cap,us,e,fr,q1,q2,q3,q4,q5,q6⟩:=hs.tok t n k _ ht
   exact⟨B,cap,us,e,fr,q1,q2,(hfr B (B9 q3)).trans q3,q4,q5,fun off ho h=>by
    rcases hnew _ h with h | h
    · exact q6 off ho h
    · have:=B9 q3;simp only at h;omega⟩
 · obtain⟨B,us,q1,q2,q3,q4,q5⟩:=hs.tvar b e cs hb
   exact⟨B,us,q1,q2,(hfr B (B9 q3)).trans q3,RL.mono hK _ _ q4,fun off h=>by
    rcases hnew _ h with h | h
    · exact q5 off h
    · have:=B9 q3;simp only at h;omega⟩
 · rcases hs.mp b _ hb with q | ⟨B,es,ck,q1,q2,q3,q4⟩
   · exact .inl q
   · exact .inr ⟨B,es,ck,q1,q2,(hfr B (B9 q3)).trans q3,q4⟩
theorem Gk.args {P:Program} {f:FuncId} {args args':List AV} {H:List HB} {Q:Out→List HB→Prop} (h:Gk P f args' H Q) (he:Ay args=args'):Gk P f args H Q:=
 ⟨h.1,fun F g w vs hG hs hr=>h.2 F g w vs hG hs (he ▸ Ju _ _ hr)⟩
theorem Ch.res {P:Program} {f:FuncId} {args:List AV} {H0 H H':List HB} {e:Int} (h:Ch P f args H e H') (hh: ∃L,H'=H0++L) (v:AV) (K:List HB): @K7 (Dy e H0) P f args H v K:=
 h.mono fun o K' ⟨h1,h2⟩=>.inr ⟨Fz e,h1,Az1 e,h2 ▸ hh⟩
theorem CALL_die {P:Program} {n:FuncId} {args first cap:List AV} {H0 H H':List HB} {e:Int} {dst:Option Nat} {l:List AO} {k:List Fr} {Q:Bg} {t:List AV} (h:Ch P n (first++args++cap) H e H') (hh: ∃L,H'=H0++L): @CALL (Dy e H0) P (.fn (.func n) first cap) args dst l k Q t H:=
 letI:=Dy e H0
 CALL_no (H':=H') (h.res hh _ _)
theorem Ko {P:Program} {n:FuncId} {args args0:List AV} {H0 H:List HB} {e:Int} {dst:Option Nat} {l:List AO} {k:List Fr} {Q:Bg} {t:List AV} (h:Ch P n args0 [] e []) (ha:Am 0 args0=true) (he:Ay args=args0) (hh: ∃L,H=H0++L): @CALL (Dy e H0) P (.fn (.func n) [] []) args dst l k Q t H:=
 CALL_die (by simpa[Ch] using Gk.args (h.lift ha H) he) hh
theorem Ub {P:Program} {V:Nat→Bool} {nq:List Nat} {HV:List HB} {m:Nat} {n:FuncId} {args args0:List AV} {H0 H:List HB} {e:Int} (r:AV) {dst:Option Nat} {l:List AO} {k:List Fr} {Q:Bg} {t:List AV} (h:Ch P n args0 [] e []) (ha:Am 0 args0=true) (he:Ay args=args0) (hh: ∀H,Cd V HV H→∃L,H=H0++L)
 (hn: @DR (Dy e H0) P V nq HV (m+1) l k Q (Ax t dst r) H): @M0 (Dy e H0) P V nq HV m (.fn (.func n) [] []) args dst l k Q t H:=
 letI:=Dy e H0
 A2u (fun H hk=>Ch.res (H':=H) (by simpa[Ch] using Gk.args (h.lift ha H) he) (hh H hk) _ _) hn
end Go.Proofs.YtemdkfnenjpioaaGreatDoor
