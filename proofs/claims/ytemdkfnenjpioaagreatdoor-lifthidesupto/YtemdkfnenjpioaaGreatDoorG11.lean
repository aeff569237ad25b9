/- Joined: Exec Ev. -/
import Derived.Test.YtemdkfnenjpioaaGreatDoorG05
set_option linter.unusedSimpArgs false
set_option linter.unusedVariables false
set_option linter.unusedSectionVars false
set_option linter.all false
set_option maxHeartbeats 4000000
set_option maxRecDepth 10000
namespace Go.Proofs.YtemdkfnenjpioaaGreatDoor
open Go
variable [Cc]
abbrev Bg:=AX→List AV→List HB→Prop
inductive Fr where
 | code (c:AC)
 | blk (id:Nat)
def kq (P:Program):List Fr→Bg→Bg
 | [],Q,x,t,H=>Q x t H
 | .code c :: k,Q,x,t,H=>match x with | .normal=>wpc P c (kq P k Q) t H | .exit i=>kq P k Q (.exit i) t H | .ret=>kq P k Q .ret t H
 | .blk id :: k,Q,x,t,H=>match x with | .normal=>kq P k Q .normal t H | .exit i=>if i=id then kq P k Q .normal t H else kq P k Q (.exit i) t H | .ret=>kq P k Q .ret t H
section
variable (P:Program)
def WP (c:AC) (k:List Fr) (Q:Bg) (t:List AV) (H:List HB):Prop:=wpc P c (kq P k Q) t H
def KN (k:List Fr) (Q:Bg) (t:List AV) (H:List HB):Prop:=kq P k Q .normal t H
def KE (i:Nat) (k:List Fr) (Q:Bg) (t:List AV) (H:List HB):Prop:=kq P k Q (.exit i) t H
def KR (k:List Fr) (Q:Bg) (t:List AV) (H:List HB):Prop:=kq P k Q .ret t H
def AR_ (l:List AO) (k:List Fr) (Q:Bg) (t:List AV) (H:List HB):Prop:=Li P l t H fun t' H'=>KN P k Q t' H'
def OPT (x:Option (AV × List HB)) (dst:Option Nat) (l:List AO) (k:List Fr) (Q:Bg) (t:List AV):Prop:=Oh x fun v H'=>AR_ P l k Q (Ax t dst v) H'
def CALL (f:AV) (args:List AV) (dst:Option Nat) (l:List AO) (k:List Fr) (Q:Bg) (t:List AV) (H:List HB):Prop:=(Lj P f args H fun v H'=>AR_ P l k Q (Ax t dst v) H')∨Yh P f args H
def GRD (b:Bool) (o:AO) (l:List AO) (k:List Fr) (Q:Bg) (t:List AV) (H:List HB):Prop:=
 ifG b (opC P o.op t H fun v H'=>AR_ P l k Q (Ax t o.dst v) H') (AR_ P l k Q (Ax t o.dst .undef) H)
def COND (v:AV) (a b:AC) (k:List Fr) (Q:Bg) (t:List AV) (H:List HB):Prop:=condK v (WP P a k Q t H) (WP P b k Q t H)
variable {k:List Fr} {Q:Bg} {t:List AV} {H:List HB}
theorem kq_code (c:AC):kq P (.code c :: k) Q=Lp (fun t' H'=>wpc P c (kq P k Q) t' H') (kq P k Q):=by
 funext x t H;cases x<;>rfl
theorem kq_blk (id:Nat):kq P (.blk id :: k) Q=Rb id (kq P k Q):=by
 funext x t H;cases x<;>rfl
@[simp] theorem A3 (a b:AC):WP P (.seq a b) k Q t H=WP P a (.code b :: k) Q t H:=by simp only[WP,wpc,kq_code]
@[simp] theorem WP_block (id:Nat) (a:AC):WP P (.block id a) k Q t H=WP P a (.blk id :: k) Q t H:=by simp only[WP,wpc,kq_blk]
@[simp] theorem WP_skip:WP P .skip k Q t H=KN P k Q t H:=rfl
@[simp] theorem WP_exit (i:Nat):WP P (.exit i) k Q t H=KE P i k Q t H:=rfl
@[simp] theorem WP_ret:WP P .ret k Q t H=KR P k Q t H:=rfl
@[simp] theorem WP_region (l:List AO):WP P (.region l) k Q t H=AR_ P l k Q t H:=rfl
@[simp] theorem WP_cond (c:AR) (a b:AC):WP P (.cond c a b) k Q t H=COND P (aev t c) a b k Q t H:=rfl
@[simp] theorem COND_true (a b:AC):COND P (.bool true) a b k Q t H=WP P a k Q t H:=rfl
@[simp] theorem COND_false (a b:AC):COND P (.bool false) a b k Q t H=WP P b k Q t H:=rfl
@[simp] theorem KN_nil:KN P [] Q t H=Q .normal t H:=rfl
@[simp] theorem KN_code (c:AC):KN P (.code c :: k) Q t H=WP P c k Q t H:=rfl
@[simp] theorem KN_blk (id:Nat):KN P (.blk id :: k) Q t H=KN P k Q t H:=rfl
@[simp] theorem KE_nil (i:Nat):KE P i [] Q t H=Q (.exit i) t H:=rfl
@[simp] theorem KE_code (i:Nat) (c:AC):KE P i (.code c :: k) Q t H=KE P i k Q t H:=rfl
@[simp] theorem KE_blk (i id:Nat):KE P i (.blk id :: k) Q t H=if i=id then KN P k Q t H else KE P i k Q t H:=rfl
@[simp] theorem KR_nil:KR P [] Q t H=Q .ret t H:=rfl
@[simp] theorem KR_code (c:AC):KR P (.code c :: k) Q t H=KR P k Q t H:=rfl
@[simp] theorem KR_blk (id:Nat):KR P (.blk id :: k) Q t H=KR P k Q t H:=rfl
@[simp] theorem AR_nil:AR_ P [] k Q t H=KN P k Q t H:=rfl
@[simp] theorem AR_cons (o:AO) (l:List AO):AR_ P (o :: l) k Q t H=GRD P (A7 t o.guard) o l k Q t H:=rfl
@[simp] theorem GRD_false (o:AO) (l:List AO):GRD P false o l k Q t H=AR_ P l k Q (Ax t o.dst .undef) H:=rfl
@[simp] theorem GRD_call (dst:Option Nat) (f:AR) (args:List AR) (g:Option (Nat × Bool)) (l:List AO):GRD P true ⟨dst,.call f args,g⟩ l k Q t H=CALL P (aev t f) (args.map (aev t)) dst l k Q t H:=rfl
@[simp] theorem OPT_some (v:AV) (H':List HB) (dst:Option Nat) (l:List AO):OPT P (some (v,H')) dst l k Q t=AR_ P l k Q (Ax t dst v) H':=rfl
theorem Br {P:Program} {n:FuncId} {args:List AV} {r:AV} {H':List HB} {dst:Option Nat} {l:List AO} (h:Ab P n args H r H') (hn:AR_ P l k Q (Ax t dst r) H'):CALL P (.fn (.func n) [] []) args dst l k Q t H:=
 .inl ⟨r,H',by simpa using h.res,hn⟩
theorem Fq {P:Program} {n:FuncId} {args first cap:List AV} {r:AV} {H':List HB} {dst:Option Nat} {l:List AO} (h:Ab P n (first++args++cap) H r H') (hn:AR_ P l k Q (Ax t dst r) H'):CALL P (.fn (.func n) first cap) args dst l k Q t H:=
 .inl ⟨r,H',h.res,hn⟩
theorem CALL_no {P:Program} {n:FuncId} {args first cap:List AV} {H':List HB} {dst:Option Nat} {l:List AO} (h:K7 P n (first++args++cap) H .no H'):CALL P (.fn (.func n) first cap) args dst l k Q t H:=
 .inr ⟨H',h⟩
theorem AWp.run {P:Program} (hm:P.follows .mixedOrders=true) {c:AC} {Q:Bg} {t:List AV} {H:List HB} (h: ∀Q':Bg,(∀ x t H,Q x t H→Q' x t H)→WP P c [] Q' t H):AWp P c t H Q:=by
 have h1:=h Q (fun _ _ _ h=>h)
 have h2:kq P [] Q=Q:=by funext x t H;rfl
 unfold WP at h1
 rw[h2] at h1
 exact AWp.of hm h1
theorem B5 {P:Program} {a:AC} (h:AWp P (.loop a) t H (kq P k Q)):WP P (.loop a) k Q t H:=h
end
theorem Cl {P:Program} {b:Bool} {x y:AC} {k:List Fr} {Q:Bg} {t:List AV} {H:List HB} (h1:b=true→WP P x k Q t H) (h2:b=false→WP P y k Q t H):COND P (.bool b) x y k Q t H:=by
 cases b
 · exact h2 rfl
 · exact h1 rfl
theorem Dp {P:Program} {b:Bool} {o:AO} {l:List AO} {k:List Fr} {Q:Bg} {t:List AV} {H:List HB} (h1:b=true→GRD P true o l k Q t H) (h2:b=false→GRD P false o l k Q t H):GRD P b o l k Q t H:=by
 cases b
 · exact h2 rfl
 · exact h1 rfl
@[simp] theorem g_mov (P:Program) (d:Option Nat) (x:AR) (g:Option (Nat × Bool)) (l:List AO) {k:List Fr} {Q:Bg} {t:List AV} {H:List HB} :GRD P true ⟨d,.mov x,g⟩ l k Q t H=AR_ P l k Q (Ax t d (aev t x)) H:=rfl
@[simp] theorem g_pick (P:Program) (d:Option Nat) (c a b:AR) (g:Option (Nat × Bool)) (l:List AO) {k:List Fr} {Q:Bg} {t:List AV} {H:List HB} :GRD P true ⟨d,.pick c a b,g⟩ l k Q t H=OPT P (Ar (.pick c a b) (aev t) H) d l k Q t:=rfl
@[simp] theorem g_alloc (P:Program) (d:Option Nat) (z:List AV) (g:Option (Nat × Bool)) (l:List AO) {k:List Fr} {Q:Bg} {t:List AV} {H:List HB} :GRD P true ⟨d,.alloc z,g⟩ l k Q t H=OPT P (Ar (.alloc z) (aev t) H) d l k Q t:=rfl
@[simp] theorem g_box (P:Program) (d:Option Nat) (x:AR) (g:Option (Nat × Bool)) (l:List AO) {k:List Fr} {Q:Bg} {t:List AV} {H:List HB} :GRD P true ⟨d,.box x,g⟩ l k Q t H=OPT P (Ar (.box x) (aev t) H) d l k Q t:=rfl
@[simp] theorem g_build (P:Program) (d:Option Nat) (z:List AV) (ps:List (Nat × Nat × AR)) (g:Option (Nat × Bool)) (l:List AO) {k:List Fr} {Q:Bg} {t:List AV} {H:List HB} :GRD P true ⟨d,.build z ps,g⟩ l k Q t H=OPT P (Ar (.build z ps) (aev t) H) d l k Q t:=rfl
@[simp] theorem g_buildSl (P:Program) (d:Option Nat) (n:Nat) (z:List AV) (m:Nat) (ps:List (Nat × AR)) (g:Option (Nat × Bool)) (l:List AO) {k:List Fr} {Q:Bg} {t:List AV} {H:List HB} :GRD P true ⟨d,.buildSl n z m ps,g⟩ l k Q t H=OPT P (Ar (.buildSl n z m ps) (aev t) H) d l k Q t:=rfl
@[simp] theorem g_emptySl (P:Program) (d:Option Nat)  (g:Option (Nat × Bool)) (l:List AO) {k:List Fr} {Q:Bg} {t:List AV} {H:List HB} :GRD P true ⟨d,.emptySl ,g⟩ l k Q t H=OPT P (Ar (.emptySl ) (aev t) H) d l k Q t:=rfl
@[simp] theorem g_convSB (P:Program) (d:Option Nat) (x:AR) (g:Option (Nat × Bool)) (l:List AO) {k:List Fr} {Q:Bg} {t:List AV} {H:List HB} :GRD P true ⟨d,.convSB x,g⟩ l k Q t H=OPT P (Ar (.convSB x) (aev t) H) d l k Q t:=rfl
@[simp] theorem g_load (P:Program) (d:Option Nat) (b:Bool) (n:Nat) (x:AR) (g:Option (Nat × Bool)) (l:List AO) {k:List Fr} {Q:Bg} {t:List AV} {H:List HB} :GRD P true ⟨d,.load b n x,g⟩ l k Q t H=OPT P (Ar (.load b n x) (aev t) H) d l k Q t:=rfl
@[simp] theorem g_store (P:Program) (d:Option Nat) (n:Nat) (x y:AR) (g:Option (Nat × Bool)) (l:List AO) {k:List Fr} {Q:Bg} {t:List AV} {H:List HB} :GRD P true ⟨d,.store n x y,g⟩ l k Q t H=OPT P (Ar (.store n x y) (aev t) H) d l k Q t:=rfl
@[simp] theorem g_nilck (P:Program) (d:Option Nat) (x:AR) (g:Option (Nat × Bool)) (l:List AO) {k:List Fr} {Q:Bg} {t:List AV} {H:List HB} :GRD P true ⟨d,.nilck x,g⟩ l k Q t H=OPT P (Ar (.nilck x) (aev t) H) d l k Q t:=rfl
@[simp] theorem g_bin (P:Program) (d:Option Nat) (o:BinOp) (x y:AR) (g:Option (Nat × Bool)) (l:List AO) {k:List Fr} {Q:Bg} {t:List AV} {H:List HB} :GRD P true ⟨d,.bin o x y,g⟩ l k Q t H=OPT P (Ar (.bin o x y) (aev t) H) d l k Q t:=rfl
@[simp] theorem g_binB (P:Program) (d:Option Nat) (b:Bool) (x y:AR) (g:Option (Nat × Bool)) (l:List AO) {k:List Fr} {Q:Bg} {t:List AV} {H:List HB} :GRD P true ⟨d,.binB b x y,g⟩ l k Q t H=OPT P (Ar (.binB b x y) (aev t) H) d l k Q t:=rfl
@[simp] theorem g_binNil (P:Program) (d:Option Nat) (c:NK) (b:Bool) (x:AR) (g:Option (Nat × Bool)) (l:List AO) {k:List Fr} {Q:Bg} {t:List AV} {H:List HB} :GRD P true ⟨d,.binNil c b x,g⟩ l k Q t H=OPT P (Ar (.binNil c b x) (aev t) H) d l k Q t:=rfl
@[simp] theorem g_un (P:Program) (d:Option Nat) (o:UnOp) (x:AR) (g:Option (Nat × Bool)) (l:List AO) {k:List Fr} {Q:Bg} {t:List AV} {H:List HB} :GRD P true ⟨d,.un o x,g⟩ l k Q t H=OPT P (Ar (.un o x) (aev t) H) d l k Q t:=rfl
@[simp] theorem g_mkfn (P:Program) (d:Option Nat) (f:Fn) (a b:List AR) (g:Option (Nat × Bool)) (l:List AO) {k:List Fr} {Q:Bg} {t:List AV} {H:List HB} :GRD P true ⟨d,.mkfn f a b,g⟩ l k Q t H=OPT P (Ar (.mkfn f a b) (aev t) H) d l k Q t:=rfl
@[simp] theorem g_sslice (P:Program) (d:Option Nat) (x:AR) (lo hi:Option AR) (g:Option (Nat × Bool)) (l:List AO) {k:List Fr} {Q:Bg} {t:List AV} {H:List HB} :GRD P true ⟨d,.sslice x lo hi,g⟩ l k Q t H=OPT P (Ar (.sslice x lo hi) (aev t) H) d l k Q t:=rfl
@[simp] theorem g_faddr (P:Program) (d:Option Nat) (n:Nat) (x:AR) (g:Option (Nat × Bool)) (l:List AO) {k:List Fr} {Q:Bg} {t:List AV} {H:List HB} :GRD P true ⟨d,.faddr n x,g⟩ l k Q t H=OPT P (Ar (.faddr n x) (aev t) H) d l k Q t:=rfl
@[simp] theorem g_iaddr (P:Program) (d:Option Nat) (n:Nat) (x y:AR) (g:Option (Nat × Bool)) (l:List AO) {k:List Fr} {Q:Bg} {t:List AV} {H:List HB} :GRD P true ⟨d,.iaddr n x y,g⟩ l k Q t H=OPT P (Ar (.iaddr n x y) (aev t) H) d l k Q t:=rfl
@[simp] theorem g_sidx (P:Program) (d:Option Nat) (x y:AR) (g:Option (Nat × Bool)) (l:List AO) {k:List Fr} {Q:Bg} {t:List AV} {H:List HB} :GRD P true ⟨d,.sidx x y,g⟩ l k Q t H=OPT P (Ar (.sidx x y) (aev t) H) d l k Q t:=rfl
@[simp] theorem g_extract (P:Program) (d:Option Nat) (x:AR) (n:Nat) (g:Option (Nat × Bool)) (l:List AO) {k:List Fr} {Q:Bg} {t:List AV} {H:List HB} :GRD P true ⟨d,.extract x n,g⟩ l k Q t H=OPT P (Ar (.extract x n) (aev t) H) d l k Q t:=rfl
@[simp] theorem g_len (P:Program) (d:Option Nat) (x:AR) (g:Option (Nat × Bool)) (l:List AO) {k:List Fr} {Q:Bg} {t:List AV} {H:List HB} :GRD P true ⟨d,.len x,g⟩ l k Q t H=OPT P (Ar (.len x) (aev t) H) d l k Q t:=rfl
@[simp] theorem g_slen (P:Program) (d:Option Nat) (x:AR) (g:Option (Nat × Bool)) (l:List AO) {k:List Fr} {Q:Bg} {t:List AV} {H:List HB} :GRD P true ⟨d,.slen x,g⟩ l k Q t H=OPT P (Ar (.slen x) (aev t) H) d l k Q t:=rfl
@[simp] theorem g_min (P:Program) (d:Option Nat) (xs:List AR) (g:Option (Nat × Bool)) (l:List AO) {k:List Fr} {Q:Bg} {t:List AV} {H:List HB} :GRD P true ⟨d,.min xs,g⟩ l k Q t H=OPT P (Ar (.min xs) (aev t) H) d l k Q t:=rfl
@[simp] theorem g_max (P:Program) (d:Option Nat) (xs:List AR) (g:Option (Nat × Bool)) (l:List AO) {k:List Fr} {Q:Bg} {t:List AV} {H:List HB} :GRD P true ⟨d,.max xs,g⟩ l k Q t H=OPT P (Ar (.max xs) (aev t) H) d l k Q t:=rfl
@[simp] theorem g_append (P:Program) (d:Option Nat) (n m:Nat) (x y:AR) (g:Option (Nat × Bool)) (l:List AO) {k:List Fr} {Q:Bg} {t:List AV} {H:List HB} :GRD P true ⟨d,.append n m x y,g⟩ l k Q t H=OPT P (Ar (.append n m x y) (aev t) H) d l k Q t:=rfl
@[simp] theorem g_mkmap (P:Program) (d:Option Nat) (g:Option (Nat × Bool)) (l:List AO) {k:List Fr} {Q:Bg} {t:List AV} {H:List HB} :GRD P true ⟨d,.mkmap,g⟩ l k Q t H=OPT P (Ar .mkmap (aev t) H) d l k Q t:=rfl
@[simp] theorem g_mapset (P:Program) (d:Option Nat) (x y:AR) (g:Option (Nat × Bool)) (l:List AO) {k:List Fr} {Q:Bg} {t:List AV} {H:List HB} :GRD P true ⟨d,.mapset x y,g⟩ l k Q t H=OPT P (Ar (.mapset x y) (aev t) H) d l k Q t:=rfl
section
variable (P:Program) (V:Nat→Bool) (nq:List Nat) (H0:List HB)
def DR (n:Nat) (l:List AO) (k:List Fr) (Q:Bg) (t:List AV) (H:List HB):Prop:=Ds P V nq H0 n l t H fun t' H'=>KN P k Q t' H'
def En (n:Nat) (x:Option (AV × List HB)) (dst:Option Nat) (l:List AO) (k:List Fr) (Q:Bg) (t:List AV):Prop:=Oh x fun v H'=>DR P V nq H0 (n+1) l k Q (Ax t dst v) H'
def DLOAD (n:Nat) (x:Option AV) (dst:Option Nat) (l:List AO) (k:List Fr) (Q:Bg) (t:List AV) (H:List HB):Prop:=optV x fun v=>DR P V nq H0 (n+1) l k Q (Ax t dst v) H
def M0 (n:Nat) (f:AV) (args:List AV) (dst:Option Nat) (l:List AO) (k:List Fr) (Q:Bg) (t:List AV) (H:List HB):Prop:=Oc P V H0 f args fun v=>DR P V nq H0 (n+1) l k Q (Ax t dst v) H
def Aav (n:Nat) (f:AV) (args:List AV) (dst:Option Nat) (l:List AO) (k:List Fr) (Q:Bg) (t:List AV) (H:List HB):Prop:=Lj P f args H fun v H'=>Cd V H0 H'∧DR P V nq H0 (n+1) l k Q (Ax t dst v) H'
def DLD (c:Bool) (n:Nat) (ag:Bool) (m:Nat) (x:AR) (dst:Option Nat) (l:List AO) (k:List Fr) (Q:Bg) (t:List AV) (H:List HB):Prop:=
 ifG c (En P V nq H0 n (Ar (.load ag m x) (aev t) H) dst l k Q t) (DLOAD P V nq H0 n (Bf V H0 ag m (aev t x)) dst l k Q t H)
def DCL (c:Bool) (n:Nat) (f:AV) (args:List AV) (dst:Option Nat) (l:List AO) (k:List Fr) (Q:Bg) (t:List AV) (H:List HB):Prop:=
 ifG c (Aav P V nq H0 n f args dst l k Q t H) (M0 P V nq H0 n f args dst l k Q t H)
def Ev (n:Nat) (b:Bool) (o:AO) (l:List AO) (k:List Fr) (Q:Bg) (t:List AV) (H:List HB):Prop:=
 ifG b (Em P V (nq.contains n) H0 o.op t H fun v H'=>DR P V nq H0 (n+1) l k Q (Ax t o.dst v) H') (DR P V nq H0 (n+1) l k Q (Ax t o.dst .undef) H)
variable {n:Nat} {k:List Fr} {Q:Bg} {t:List AV} {H:List HB}
@[simp] theorem DR_nil:DR P V nq H0 n [] k Q t H=KN P k Q t H:=rfl
@[simp] theorem DR_cons (o:AO) (l:List AO):DR P V nq H0 n (o :: l) k Q t H=Ev P V nq H0 n (A7 t o.guard) o l k Q t H:=rfl
@[simp] theorem DGRD_false (o:AO) (l:List AO):Ev P V nq H0 n false o l k Q t H=DR P V nq H0 (n+1) l k Q (Ax t o.dst .undef) H:=rfl
@[simp] theorem DOPT_some (v:AV) (H':List HB) (dst:Option Nat) (l:List AO):En P V nq H0 n (some (v,H')) dst l k Q t=DR P V nq H0 (n+1) l k Q (Ax t dst v) H':=rfl
@[simp] theorem DLOAD_some (v:AV) (dst:Option Nat) (l:List AO):DLOAD P V nq H0 n (some v) dst l k Q t H=DR P V nq H0 (n+1) l k Q (Ax t dst v) H:=rfl
@[simp] theorem DLD_true (ag:Bool) (m:Nat) (x:AR) (dst:Option Nat) (l:List AO):DLD P V nq H0 true n ag m x dst l k Q t H=En P V nq H0 n (Ar (.load ag m x) (aev t) H) dst l k Q t:=rfl
@[simp] theorem DLD_false (ag:Bool) (m:Nat) (x:AR) (dst:Option Nat) (l:List AO):DLD P V nq H0 false n ag m x dst l k Q t H=DLOAD P V nq H0 n (Bf V H0 ag m (aev t x)) dst l k Q t H:=rfl
@[simp] theorem DCL_true (f:AV) (args:List AV) (dst:Option Nat) (l:List AO):DCL P V nq H0 true n f args dst l k Q t H=Aav P V nq H0 n f args dst l k Q t H:=rfl
@[simp] theorem DCL_false (f:AV) (args:List AV) (dst:Option Nat) (l:List AO):DCL P V nq H0 false n f args dst l k Q t H=M0 P V nq H0 n f args dst l k Q t H:=rfl
@[simp] theorem d_load (d:Option Nat) (b:Bool) (m:Nat) (x:AR) (g:Option (Nat × Bool)) (l:List AO):Ev P V nq H0 n true ⟨d,.load b m x,g⟩ l k Q t H=DLD P V nq H0 (nq.contains n) n b m x d l k Q t H:=rfl
@[simp] theorem d_call (d:Option Nat) (f:AR) (args:List AR) (g:Option (Nat × Bool)) (l:List AO):Ev P V nq H0 n true ⟨d,.call f args,g⟩ l k Q t H=DCL P V nq H0 (nq.contains n) n (aev t f) (args.map (aev t)) d l k Q t H:=rfl
@[simp] theorem d_mov (d:Option Nat) (x:AR) (g:Option (Nat × Bool)) (l:List AO):Ev P V nq H0 n true ⟨d,.mov x,g⟩ l k Q t H=DR P V nq H0 (n+1) l k Q (Ax t d (aev t x)) H:=rfl
@[simp] theorem d_pick (d:Option Nat) (c a b:AR) (g:Option (Nat × Bool)) (l:List AO):Ev P V nq H0 n true ⟨d,.pick c a b,g⟩ l k Q t H=En P V nq H0 n (Ar (.pick c a b) (aev t) H) d l k Q t:=rfl
@[simp] theorem d_alloc (d:Option Nat) (z:List AV) (g:Option (Nat × Bool)) (l:List AO):Ev P V nq H0 n true ⟨d,.alloc z,g⟩ l k Q t H=En P V nq H0 n (Ar (.alloc z) (aev t) H) d l k Q t:=rfl
@[simp] theorem d_build (d:Option Nat) (z:List AV) (ps:List (Nat × Nat × AR)) (g:Option (Nat × Bool)) (l:List AO):Ev P V nq H0 n true ⟨d,.build z ps,g⟩ l k Q t H=En P V nq H0 n (Ar (.build z ps) (aev t) H) d l k Q t:=rfl
@[simp] theorem d_buildSl (d:Option Nat) (n1:Nat) (z:List AV) (m:Nat) (ps:List (Nat × AR)) (g:Option (Nat × Bool)) (l:List AO):Ev P V nq H0 n true ⟨d,.buildSl n1 z m ps,g⟩ l k Q t H=En P V nq H0 n (Ar (.buildSl n1 z m ps) (aev t) H) d l k Q t:=rfl
@[simp] theorem d_store (d:Option Nat) (n1:Nat) (x y:AR) (g:Option (Nat × Bool)) (l:List AO):Ev P V nq H0 n true ⟨d,.store n1 x y,g⟩ l k Q t H=En P V nq H0 n (Ar (.store n1 x y) (aev t) H) d l k Q t:=rfl
@[simp] theorem d_nilck (d:Option Nat) (x:AR) (g:Option (Nat × Bool)) (l:List AO):Ev P V nq H0 n true ⟨d,.nilck x,g⟩ l k Q t H=En P V nq H0 n (Ar (.nilck x) (aev t) H) d l k Q t:=rfl
@[simp] theorem d_bin (d:Option Nat) (o:BinOp) (x y:AR) (g:Option (Nat × Bool)) (l:List AO):Ev P V nq H0 n true ⟨d,.bin o x y,g⟩ l k Q t H=En P V nq H0 n (Ar (.bin o x y) (aev t) H) d l k Q t:=rfl
@[simp] theorem d_un (d:Option Nat) (o:UnOp) (x:AR) (g:Option (Nat × Bool)) (l:List AO):Ev P V nq H0 n true ⟨d,.un o x,g⟩ l k Q t H=En P V nq H0 n (Ar (.un o x) (aev t) H) d l k Q t:=rfl
@[simp] theorem d_faddr (d:Option Nat) (n1:Nat) (x:AR) (g:Option (Nat × Bool)) (l:List AO):Ev P V nq H0 n true ⟨d,.faddr n1 x,g⟩ l k Q t H=En P V nq H0 n (Ar (.faddr n1 x) (aev t) H) d l k Q t:=rfl
@[simp] theorem d_iaddr (d:Option Nat) (n1:Nat) (x y:AR) (g:Option (Nat × Bool)) (l:List AO):Ev P V nq H0 n true ⟨d,.iaddr n1 x y,g⟩ l k Q t H=En P V nq H0 n (Ar (.iaddr n1 x y) (aev t) H) d l k Q t:=rfl
@[simp] theorem d_extract (d:Option Nat) (x:AR) (n1:Nat) (g:Option (Nat × Bool)) (l:List AO):Ev P V nq H0 n true ⟨d,.extract x n1,g⟩ l k Q t H=En P V nq H0 n (Ar (.extract x n1) (aev t) H) d l k Q t:=rfl
@[simp] theorem d_len (d:Option Nat) (x:AR) (g:Option (Nat × Bool)) (l:List AO):Ev P V nq H0 n true ⟨d,.len x,g⟩ l k Q t H=En P V nq H0 n (Ar (.len x) (aev t) H) d l k Q t:=rfl
@[simp] theorem d_max (d:Option Nat) (xs:List AR) (g:Option (Nat × Bool)) (l:List AO):Ev P V nq H0 n true ⟨d,.max xs,g⟩ l k Q t H=En P V nq H0 n (Ar (.max xs) (aev t) H) d l k Q t:=rfl
@[simp] theorem d_append (d:Option Nat) (n1 m:Nat) (x y:AR) (g:Option (Nat × Bool)) (l:List AO):Ev P V nq H0 n true ⟨d,.append n1 m x y,g⟩ l k Q t H=En P V nq H0 n (Ar (.append n1 m x y) (aev t) H) d l k Q t:=rfl
end
theorem C3 {P:Program} {ops:List AO} {ws:List (List Nat)} {k:List Fr} {Q:Bg} {t:List AV} {H:List HB} (hok:D8 ops ws (Da ops []) (Ew ops)=true) (h:DR P (fun _=>true) [] H 0 ops k Q t H):WP P (.draw ops ws) k Q t H:=by
 exact .inl ⟨_,_,hok,h⟩
theorem Iy {P:Program} (V:Nat→Bool) (nq:List Nat) {ops:List AO} {ws:List (List Nat)} {k:List Fr} {Q:Bg} {t:List AV} {H:List HB} (hok:D8 ops ws (Da ops nq) (Ew ops)=true) (h:DR P V nq H 0 ops k Q t H):WP P (.draw ops ws) k Q t H:=
 .inl ⟨_,_,hok,h⟩
theorem Fe {P:Program} (V:Nat→Bool) (nq:List Nat) {ops:List AO} {ws:List (List Nat)} {k:List Fr} {Q:Bg} {t:List AV} {H:List HB} (hok:D8 ops ws (Da ops nq) ops.length=true) (ht:L7 ops nq=true)
 (h:DR P V nq H 0 ops [] (fun _ t' H'=>Cd V H H'∧KN P k Q t' H') t H):WP P (.draw ops ws) k Q t H:=
 .inr (.inl ⟨_,_,hok,ht,h⟩)
theorem Ad8 (V:Nat→Bool) (nq:List Nat) (d:Nat) {P:Program} (hm:P.follows .mixedOrders=true) {ops:List AO} {ws:List (List Nat)} {k:List Fr} {Q:Bg} {t:List AV} {H:List HB} (hok:D8 ops ws (Da ops nq) (Ew ops)=true)
 (h:DR P V nq H 0 ops [] (fun _ t' _=>Lt (t'.getD d .undef)=true) t H):WP P (.draw ops ws) k Q t H:=
 .inr (.inr (AWp.dead d (AWp.drawC hm V nq hok h)))
theorem WP_drawG (V:Nat→Bool) (nq ds:List Nat) {P:Program} (hm:P.follows .mixedOrders=true) {ops:List AO} {ws:List (List Nat)} {k:List Fr} {Q:Bg} {t:List AV} {H:List HB} (hok:D8 ops ws (Da ops nq) ops.length=true) (ht:Uo ops nq ds=true)
 (h:DR P V nq H 0 ops [] (fun _ t' H'=>Cd V H H'∧(∀ d ∈ ds,J6 V (t'.getD d .undef)=true)∧KN P k Q t' H') t H):WP P (.draw ops ws) k Q t H:=
 .inr (.inr (AWp.drawG hm V nq ds hok ht h))
theorem N5 {P:Program} {V:Nat→Bool} {nq:List Nat} {H0:List HB} {m:Nat} {n:FuncId} {args:List AV} {r:AV} {dst:Option Nat} {l:List AO} {k:List Fr} {Q:Bg} {t:List AV} {H:List HB} (h: ∀H,Ab P n args H r H) (hn:DR P V nq H0 (m+1) l k Q (Ax t dst r) H):M0 P V nq H0 m (.fn (.func n) [] []) args dst l k Q t H:=
 ⟨r,fun H _=>by simpa using (h H).res,hn⟩
theorem Vb {P:Program} {V:Nat→Bool} {nq:List Nat} {H0:List HB} {m:Nat} {n:FuncId} {args first cap:List AV} {r:AV} {dst:Option Nat} {l:List AO} {k:List Fr} {Q:Bg} {t:List AV} {H:List HB} (h: ∀H,Cd V H0 H→Ab P n (first++args++cap) H r H) (hn:DR P V nq H0 (m+1) l k Q (Ax t dst r) H):M0 P V nq H0 m (.fn (.func n) first cap) args dst l k Q t H:=
 ⟨r,fun H hk=>(h H hk).res,hn⟩
theorem A2u {P:Program} {V:Nat→Bool} {nq:List Nat} {H0:List HB} {m:Nat} {n:FuncId} {args first cap:List AV} {r:AV} {dst:Option Nat} {l:List AO} {k:List Fr} {Q:Bg} {t:List AV} {H:List HB} (h: ∀H,Cd V H0 H→K7 P n (first++args++cap) H r H) (hn:DR P V nq H0 (m+1) l k Q (Ax t dst r) H):M0 P V nq H0 m (.fn (.func n) first cap) args dst l k Q t H:=
 ⟨r,h,hn⟩
theorem Hl {P:Program} {V:Nat→Bool} {nq:List Nat} {H0:List HB} {m:Nat} {n:FuncId} {args first cap:List AV} {r:AV} {dst:Option Nat} {l:List AO} {k:List Fr} {Q:Bg} {t:List AV} {H H':List HB} (h:Ab P n (first++args++cap) H r H') (hk:Cd V H0 H') (hn:DR P V nq H0 (m+1) l k Q (Ax t dst r) H'):Aav P V nq H0 m (.fn (.func n) first cap) args dst l k Q t H:=
 ⟨r,H',h.res,hk,hn⟩
theorem Ah {P:Program} {n:FuncId} {args args0:List AV} {r:AV} {dst:Option Nat} {l:List AO} {k:List Fr} {Q:Bg} {t:List AV} {H:List HB} (h:Ab P n args0 [] r []) (ha:Am 0 args0=true) (hr:r.inScope 0=true) (he:Ay args=args0) (hn:AR_ P l k Q (Ax t dst r) H):CALL P (.fn (.func n) [] []) args dst l k Q t H:=
 Br ((h.lift ha hr H).args he) hn
theorem Bp {P:Program} {V:Nat→Bool} {nq:List Nat} {H0:List HB} {m:Nat} {n:FuncId} {args args0:List AV} {r:AV} {dst:Option Nat} {l:List AO} {k:List Fr} {Q:Bg} {t:List AV} {H:List HB} (h:Ab P n args0 [] r []) (ha:Am 0 args0=true) (hr:r.inScope 0=true) (he:Ay args=args0) (hn:DR P V nq H0 (m+1) l k Q (Ax t dst r) H):M0 P V nq H0 m (.fn (.func n) [] []) args dst l k Q t H:=
 N5 (fun H=>(h.lift ha hr H).args he) hn
end Go.Proofs.YtemdkfnenjpioaaGreatDoor
namespace Go.Proofs.YtemdkfnenjpioaaGreatDoor
open Go
mutual
def eqA:AV→AV→Bool
 | .bool a,.bool b=>a == b
 | .int k a,.int l b=>decide (k=l) && a == b
 | .str a,.str b=>a == b
 | .nilp,.nilp=>true
 | .nilm,.nilm=>true
 | .ptr a b,.ptr c d=>a == c && b == d
 | .eptr a,.eptr b=>H6 a b
 | .sl t a,.sl u b=>decide (t=u) && eqAr a b
 | .nilf,.nilf=>true
 | .iface t v,.iface u w=>t == u && eqA v w
 | .nili,.nili=>true
 | .agg a,.agg b=>H6 a b
 | .tup a,.tup b=>H6 a b
 | _,_=>false
def H6:List AV→List AV→Bool
 | [],[]=>true
 | x :: xs,y :: ys=>eqA x y && H6 xs ys
 | _,_=>false
def eqAr:List (List AV)→List (List AV)→Bool
 | [],[]=>true
 | x :: xs,y :: ys=>H6 x y && eqAr xs ys
 | _,_=>false
end
mutual
theorem eqA_eq: ∀(x y:AV),eqA x y=true→x=y
 | .bool a,y,h=>by cases y<;>simp_all[eqA]
 | .int k a,y,h=>by cases y<;>simp_all[eqA]
 | .str a,y,h=>by cases y<;>simp_all[eqA]
 | .nilp,y,h=>by cases y<;>simp_all[eqA]
 | .nilm,y,h=>by cases y<;>simp_all[eqA]
 | .ptr a b,y,h=>by cases y<;>simp_all[eqA]
 | .eptr a,y,h=>by
   cases y<;>simp only[eqA,Bool.false_eq_true] at h
   rw[Kj _ _ h]
 | .sl t a,y,h=>by
   cases y<;>simp only[eqA,Bool.false_eq_true,Bool.and_eq_true,decide_eq_true_eq] at h
   rw[h.1,Ai5 _ _ h.2]
 | .fn f a b,y,h=>by cases y<;>simp[eqA] at h
 | .nilf,y,h=>by cases y<;>simp_all[eqA]
 | .iface t v,y,h=>by
   cases y<;>simp only[eqA,Bool.false_eq_true,Bool.and_eq_true,beq_iff_eq] at h
   rw[h.1,eqA_eq _ _ h.2]
 | .nili,y,h=>by cases y<;>simp_all[eqA]
 | .agg a,y,h=>by
   cases y<;>simp only[eqA,Bool.false_eq_true] at h
   rw[Kj _ _ h]
 | .tup a,y,h=>by
   cases y<;>simp only[eqA,Bool.false_eq_true] at h
   rw[Kj _ _ h]
theorem Kj: ∀(x y:List AV),H6 x y=true→x=y
 | [],y,h=>by cases y<;>simp_all[H6]
 | x :: xs,y,h=>by
   cases y<;>simp only[H6,Bool.false_eq_true,Bool.and_eq_true] at h
   rw[eqA_eq _ _ h.1,Kj _ _ h.2]
theorem Ai5: ∀(x y:List (List AV)),eqAr x y=true→x=y
 | [],y,h=>by cases y<;>simp_all[eqAr]
 | x :: xs,y,h=>by
   cases y<;>simp only[eqAr,Bool.false_eq_true,Bool.and_eq_true] at h
   rw[Kj _ _ h.1,Ai5 _ _ h.2]
end
section
variable {β :Type}
def fN (n:Nat) (k:Nat→β): β:=match n with | 0=>k 0 | m+1=>k (m+1)
theorem Tn (n:Nat) (k:Nat→β):fN n k=k n:=by cases n<;>rfl
def fI (n:Int) (k:Int→β): β:=match n with | .ofNat m=>fN m fun m=>k (.ofNat m) | .negSucc m=>fN m fun m=>k (.negSucc m)
theorem fI_eq (n:Int) (k:Int→β):fI n k=k n:=by cases n<;>simp[fI,Tn]
def fB (b:Bool) (k:Bool→β): β:=match b with | true=>k true | false=>k false
theorem fB_eq (b:Bool) (k:Bool→β):fB b k=k b:=by cases b<;>rfl
def fK (b:IntKind) (k:IntKind→β): β:=match b with
 | .i8=>k .i8 | .i16=>k .i16 | .i32=>k .i32 | .i64=>k .i64 | .u8=>k .u8 | .u16=>k .u16 | .u32=>k .u32 | .u64=>k .u64
theorem fK_eq (b:IntKind) (k:IntKind→β):fK b k=k b:=by cases b<;>rfl
def fS (s:List UInt8) (k:List UInt8→β): β:=match s with
 | []=>k []
 | c :: r=>fS r fun r=>fN c.toNat fun n=>k (UInt8.ofNat n :: r)
theorem fS_eq: ∀(s:List UInt8) (k:List UInt8→β),fS s k=k s
 | [],_=>rfl
 | c :: r,k=>by rw[fS,fS_eq r,Tn]; simp
def fT (t:Tok) (k:Tok→β): β:=match t with | .none=>k .none | .nilT=>k .nilT | .nn=>k .nn | .tight=>k .tight | .own t=>fN t fun t=>k (.own t) | .lazy t=>fN t fun t=>k (.lazy t)
theorem fT_eq (t:Tok) (k:Tok→β):fT t k=k t:=by cases t<;>simp[fT,Tn]
end
noncomputable def fSp {α β :Type} (l:List α):(List α→β)→β:=
 List.rec (motive:=fun _=>(List α→β)→β) (fun k=>k []) (fun x _ ih k=>ih fun xs=>k (x :: xs)) l
theorem fSp_eq {α β :Type} : ∀(l:List α) (k:List α→β),fSp l k=k l
 | [],k=>rfl
 | x :: xs,k=>fSp_eq xs _
noncomputable def fLs {α β :Type} (f: α→(α→β)→β) (l:List α):(List α→β)→β:=
 List.rec (motive:=fun _=>(List α→β)→β) (fun k=>k []) (fun x _ ih k=>f x fun x=>ih fun xs=>k (x :: xs)) l
theorem Jr {α β :Type} {f: α→(α→β)→β} (hf: ∀x k,f x k=k x): ∀(l:List α) (k:List α→β),fLs f l k=k l
 | [],k=>rfl
 | x :: xs,k=>by
   show f x (fun x=>fLs f xs fun xs=>k (x :: xs))=_
   rw[hf,Jr hf xs]
noncomputable def fV {β :Type} :Nat→AV→(AV→β)→β
 | 0,x,k=>k x
 | d+1,x,k=>match x with
   | .bool b=>fB b fun b=>k (.bool b)
   | .int q n=>fK q fun q=>fI n fun n=>k (.int q n)
   | .str s=>fS s fun s=>k (.str s)
   | .nilp=>k .nilp
   | .nilm=>k .nilm
   | .ptr b o=>fN b fun b=>fN o fun o=>k (.ptr b o)
   | .mapv b=>fN b fun b=>k (.mapv b)
   | .val v=>k (.val v)
   | .vsl b n=>fN b fun b=>fN n fun n=>k (.vsl b n)
   | .eptr cs=>fLs (fV d) cs fun cs=>k (.eptr cs)
   | .sl t els=>fT t fun t=>fLs (fLs (fV d)) els fun els=>k (.sl t els)
   | .fn f a b=>fLs (fV d) a fun a=>fLs (fV d) b fun b=>k (.fn f a b)
   | .nilf=>k .nilf
   | .iface t v=>fV d v fun v=>k (.iface t v)
   | .nili=>k .nili
   | .agg cs=>fLs (fV d) cs fun cs=>k (.agg cs)
   | .tup cs=>fLs (fV d) cs fun cs=>k (.tup cs)
theorem Yp {β :Type} : ∀(d:Nat) (x:AV) (k:AV→β),fV d x k=k x
 | 0,x,k=>rfl
 | d+1,x,k=>by
   have h:=Yp (β:=β) d
   cases x<;>simp only[fV,fB_eq,fK_eq,fI_eq,fS_eq,Tn,fT_eq,Jr h,Jr (Jr h),h]
noncomputable def fHB {β :Type} :HB→(HB→β)→β
 | .var cs,k=>fLs (fV 1) cs fun cs=>k (.var cs)
 | .tvar e cs,k=>fN e fun e=>fLs (fV 1) cs fun cs=>k (.tvar e cs)
 | .tok n m e,k=>fN n fun n=>fN m fun m=>fN e fun e=>k (.tok n m e)
 | .mp ks,k=>fLs (fun n k=>fN n k) ks fun ks=>k (.mp ks)
theorem fHB_eq {β :Type} (x:HB) (k:HB→β):fHB x k=k x:=by
 cases x<;>simp only[fHB,Tn,Jr (Yp 1),Jr (α:=Nat) (f:=fun n k=>k n) (fun _ _=>rfl)]
noncomputable def fHq {β :Type} (op:AOp) (H:List HB) (k:List HB→β): β:=
 match G5 op,op with
 | true,.call _ _=>fLs fHB H k
 | true,_=>k H
 | false,_=>fLs fHB H k
theorem fHq_eq {β :Type} (op:AOp) (H:List HB) (k:List HB→β):fHq op H k=k H:=by
 unfold fHq
 split
 · exact Jr fHB_eq H k
 · rfl
 · exact Jr fHB_eq H k
abbrev Ov:=List (Nat × AV)
def Dw (base:List AV):Ov→List AV
 | []=>base
 | p :: r=>(Dw base r).set p.1 p.2
noncomputable def getL (l:List AV):Nat→AV:=
 List.rec (motive:=fun _=>Nat→AV) (fun _=>.undef) (fun x _ ih i=>Nat.rec (motive:=fun _=>AV) x (fun n _=>ih n) i) l
theorem Akx: ∀(l:List AV) (i:Nat),getL l i=l.getD i .undef
 | [],i=>by simp[getL]
 | x :: xs,0=>rfl
 | x :: xs,i+1=>by
   show getL xs i=_
   rw[Akx xs i]; simp
noncomputable def look (base:List AV) (ov:Ov) (i:Nat):AV:=
 List.rec (motive:=fun _=>AV) (getL base i) (fun p _ ih=>cond (Nat.beq i p.1) p.2 ih) ov
noncomputable def lk (base:List AV) (ov:Ov):AR→AV
 | .tmp i=>look base ov i
 | .cst v=>v
def Fa (base:List AV) (ov:Ov):Prop:=∀p ∈ ov,p.1 < base.length
theorem Anf (base:List AV): ∀ov:Ov,(Dw base ov).length=base.length
 | []=>rfl
 | p :: r=>by simp[Dw,Anf base r]
theorem Al9 {base:List AV} : ∀{ov:Ov},Fa base ov→∀i,look base ov i=(Dw base ov).getD i .undef
 | [],_,i=>Akx base i
 | p :: r,h,i=>by
   show cond (Nat.beq i p.1) p.2 (look base r i)=_
   rw[Al9 (ov:=r) (fun q hq=>h q (by simp[hq])) i]
   have hp:=h p (by simp)
   simp only[Dw]
   cases hb:Nat.beq i p.1
   · have:p.1≠i:=fun e=>by subst e;rw[Nat.beq_refl] at hb;cases hb
     simp only[cond_false,List.getD_eq_getElem?_getD]
     rw[List.getElem?_set_ne this]
   · have:=Nat.eq_of_beq_eq_true hb
     subst this
     simp only[cond_true,List.getD_eq_getElem?_getD]
     rw[List.getElem?_set_self (by rw[Anf]; exact hp)]; rfl
theorem Q9 {base:List AV} {ov:Ov} (h:Fa base ov):lk base ov=aev (Dw base ov):=by
 funext x
 cases x with
 | tmp i=>exact Al9 h i
 | cst v=>rfl
def L9 (n:Nat) (ov:Ov) (dst:Option Nat) (v:AV):Option Ov:=
 match dst with
 | none=>some ov
 | some d=>match Nat.blt d n with
   | true=>some ((d,v) :: ov)
   | false=>none
theorem Ui {base:List AV} {ov ov':Ov} {dst:Option Nat} {v:AV} (ho:Fa base ov) (h:L9 base.length ov dst v=some ov'):Fa base ov'∧Dw base ov'=Ax (Dw base ov) dst v:=by
 cases dst with
 | none=>simp only[L9,Option.some.injEq] at h;subst h;exact⟨ho,rfl⟩
 | some d=>
   simp only[L9] at h
   split at h
   · rename_i hb
     simp only[Option.some.injEq] at h;subst h
     refine⟨fun p hp=>?_,rfl⟩
     rcases List.mem_cons.1 hp with rfl | hp
     · simpa[Nat.blt_eq] using hb
     · exact ho p hp
   · cases h
def P4 (ρ :AR→AV):Option (Nat × Bool)→Bool
 | none=>true
 | some (d,want)=>match ρ (.tmp d) with
   | .bool b=>b == want
   | _=>false
theorem An5 (t:List AV) (gd:Option (Nat × Bool)):P4 (aev t) gd=A7 t gd:=by
 cases gd with
 | none=>rfl
 | some p=>
   obtain⟨d,want⟩:=p
   simp only[P4,A7,aev,List.getD_eq_getElem?_getD]
   cases t[d]? with
   | none=>rfl
   | some x=>cases x<;>rfl
abbrev D7:=FuncId→List AV→List HB→Option (AV × List HB)
def eOp (call:D7) (op:AOp) (ρ :AR→AV) (H:List HB):Option (AV × List HB):=
 match op with
 | .call f args=>match ρ f with
   | .fn (.func n) a b=>call n (a++args.map ρ ++b) H
   | _=>none
 | op=>Ar op ρ H
noncomputable def fR {β :Type} (n:Nat) (op:AOp) (dst:Option Nat) (ov:Ov) (x:Option (AV × List HB)) (k:Ov→List HB→Option β):Option β:=
 match x with
 | none=>none
 | some (v,H)=>fV 3 v fun v=>fHq op H fun H=>match L9 n ov dst v with
   | some ov=>k ov H
   | none=>none
theorem Aix {β :Type} {n:Nat} {op:AOp} {dst:Option Nat} {ov:Ov} {x:Option (AV × List HB)} {k:Ov→List HB→Option β} {r: β} (h:fR n op dst ov x k=some r): ∃v H ov',x=some (v,H)∧L9 n ov dst v=some ov'∧k ov' H=some r:=by
 cases x with
 | none=>cases h
 | some p=>
   simp only[fR,Yp,fHq_eq] at h
   split at h
   · rename_i ov' ho
     exact⟨p.1,p.2,ov',rfl,ho,h⟩
   · cases h
def fU {β :Type} (n:Nat) (dst:Option Nat) (ov:Ov) (k:Ov→Option β):Option β:=
 match L9 n ov dst .undef with
 | some ov=>k ov
 | none=>none
theorem Anb {β :Type} {n:Nat} {dst:Option Nat} {ov:Ov} {k:Ov→Option β} {r: β} (h:fU n dst ov k=some r): ∃ov',L9 n ov dst .undef=some ov'∧k ov'=some r:=by
 unfold fU at h
 split at h
 · rename_i ov' ho;exact⟨ov',ho,h⟩
 · cases h
noncomputable def Nv (call:D7) (base:List AV) (n:Nat) (l:List AO):Ov→List HB→Option (Ov × List HB):=
 List.rec (motive:=fun _=>Ov→List HB→Option (Ov × List HB)) (fun ov H=>some (ov,H)) (fun o _ ih ov H=>
  match P4 (lk base ov) o.guard with
  | true=>fR n o.op o.dst ov (eOp call o.op (lk base ov) H) fun ov H=>ih ov H
  | false=>fU n o.dst ov fun ov=>ih ov H) l
theorem eRun_nil (call:D7) (base:List AV) (n:Nat) (ov:Ov) (H:List HB):Nv call base n [] ov H=some (ov,H):=rfl
theorem A0w (call:D7) (base:List AV) (n:Nat) (o:AO) (l:List AO) (ov:Ov) (H:List HB):Nv call base n (o :: l) ov H=
 match P4 (lk base ov) o.guard with
 | true=>fR n o.op o.dst ov (eOp call o.op (lk base ov) H) fun ov H=>Nv call base n l ov H
 | false=>fU n o.dst ov fun ov=>Nv call base n l ov H:=rfl
def eqV (x y:Option HB):Bool:=match x,y with
 | some (.var a),some (.var b)=>H6 a b
 | some (.var _),_=>false
 | _,_=>true
def Xw (V:Nat→Bool) (H0 H:List HB):Bool:=(List.range H0.length).all fun b=>!V b || eqV H0[b]? H[b]?
theorem Aof {V:Nat→Bool} {H0 H:List HB} (h:Xw V H0 H=true):Cd V H0 H:=by
 intro b cs hv hb
 unfold Xw at h
 rw[List.all_eq_true] at h
 have:=h b (List.mem_range.2 (List.getElem?_eq_some_iff.1 hb).1)
 rw[hv,hb] at this
 simp only[Bool.not_true,Bool.false_or] at this
 unfold eqV at this
 split at this
 · rename_i e1 e2
   simp only[Option.some.injEq,HB.var.injEq] at e1
   subst e1
   rw[Kj _ _ this]; exact e2
 · cases this
 · rename_i h1 h2;exact (h1 cs rfl).elim
def pureE (call:D7) (n:FuncId) (avs:List AV) (H:List HB):Option (AV × List HB):=
 match Am 0 avs with
 | true=>match call n avs [] with
   | some (v,H1)=>match H1 with
     | []=>match v.inScope 0 with
       | true=>some (v,H)
       | false=>none
     | _ :: _=>none
   | none=>none
 | false=>none
theorem Aw4 {call:D7} {n:FuncId} {avs:List AV} {H H':List HB} {v:AV} (h:pureE call n avs H=some (v,H')):H'=H∧Am 0 avs=true∧v.inScope 0=true∧call n avs []=some (v,[]):=by
 unfold pureE at h
 split at h
 · rename_i hs
   split at h
   · rename_i v1 H1 hv
     split at h
     · split at h
       · rename_i hs2
         simp only[Option.some.injEq,Prod.mk.injEq] at h
         obtain⟨rfl,rfl⟩:=h
         exact⟨rfl,hs,hs2,hv⟩
       · cases h
     · cases h
   · cases h
 · cases h
def P9 (call:D7) (V:Nat→Bool) (nq:Bool) (H0:List HB) (op:AOp) (ρ :AR→AV) (H:List HB):Option (AV × List HB):=
 match op with
 | .call f args=>match ρ f with
   | .fn (.func n) a b=>match nq with
     | true=>match call n (a++args.map ρ ++b) H with
       | some (v,H')=>if Xw V H0 H'=true then some (v,H') else none
       | none=>none
     | false=>pureE call n (Ay (a++args.map ρ ++b)) H
   | _=>none
 | .load ag n x=>match nq with
   | true=>Ar (.load ag n x) ρ H
   | false=>(Bf V H0 ag n (ρ x)).map (·,H)
 | op=>Ar op ρ H
noncomputable def eD (call:D7) (base:List AV) (n:Nat) (V:Nat→Bool) (nq:List Nat) (H0:List HB) (l:List AO):Nat→Ov→List HB→Option (Ov × List HB):=
 List.rec (motive:=fun _=>Nat→Ov→List HB→Option (Ov × List HB)) (fun _ ov H=>some (ov,H)) (fun o _ ih k ov H=>
  match P4 (lk base ov) o.guard with
  | true=>fR n o.op o.dst ov (P9 call V (nq.contains k) H0 o.op (lk base ov) H) fun ov H=>ih (k+1) ov H
  | false=>fU n o.dst ov fun ov=>ih (k+1) ov H) l
theorem eD_cons (call:D7) (base:List AV) (n:Nat) (V:Nat→Bool) (nq:List Nat) (H0:List HB) (o:AO) (l:List AO) (k:Nat) (ov:Ov) (H:List HB):eD call base n V nq H0 (o :: l) k ov H=
 match P4 (lk base ov) o.guard with
 | true=>fR n o.op o.dst ov (P9 call V (nq.contains k) H0 o.op (lk base ov) H) fun ov H=>eD call base n V nq H0 l (k+1) ov H
 | false=>fU n o.dst ov fun ov=>eD call base n V nq H0 l (k+1) ov H:=rfl
def Kn:Nat→List AO→List Nat
 | _,[]=>[]
 | k,o :: r=>match o.op with | .call _ _=>k :: Kn (k+1) r | _=>Kn (k+1) r
noncomputable def eDC (call:D7) (base:List AV) (n:Nat) (V:Nat→Bool) (nq:List Nat) (ops:List AO) (ws:List (List Nat)) (ov:Ov) (H:List HB):Option (Ov × List HB):=
 match D8 ops ws (Da ops nq) (Ew ops) with
 | true=>eD call base n V nq H ops 0 ov H
 | false=>none
noncomputable def eDF (call:D7) (base:List AV) (n:Nat) (V:Nat→Bool) (nq:List Nat) (ops:List AO) (ws:List (List Nat)) (ov:Ov) (H:List HB):Option (Ov × List HB):=
 match D8 ops ws (Da ops nq) ops.length && L7 ops nq with
 | true=>match eD call base n V nq H ops 0 ov H with
   | some (ov',H')=>if Xw V H H'=true then some (ov',H') else none
   | none=>none
 | false=>none
def orE {α :Type} (x:Option α) (y:Unit→Option α):Option α:=match x with | some v=>some v | none=>y ()
noncomputable def eDraw (call:D7) (base:List AV) (n:Nat) (ops:List AO) (ws:List (List Nat)) (ov:Ov) (H:List HB):Option (Ov × List HB):=
 orE (eDC call base n (fun _=>true) [] ops ws ov H) fun _=>
 orE (eDC call base n (fun _=>true) (Kn 0 ops) ops ws ov H) fun _=>
 match Nv call base n ops ov H with
 | none=>none
 | some (_,H1)=>
   orE (eDC call base n (fun b=>eqV H[b]? H1[b]?) (Kn 0 ops) ops ws ov H) fun _=>
   orE (eDC call base n (fun b=>eqV H[b]? H1[b]?) ((Kn 0 ops).drop ((Kn 0 ops).length - 1)) ops ws ov H) fun _=>
   orE (eDC call base n (fun b=>eqV H[b]? H1[b]?) ((Kn 0 ops).drop ((Kn 0 ops).length - 2)) ops ws ov H) fun _=>
   orE (eDF call base n (fun b=>eqV H[b]? H1[b]?) [] ops ws ov H) fun _=>eDF call base n (fun b=>eqV H[b]? H1[b]?) (Kn 0 ops) ops ws ov H
abbrev Ox:=Option (AX × Ov × List HB)
noncomputable def Hy (call:D7) (base:List AV) (n:Nat) (rec:AC→Ov→List HB→Ox) (c:AC) (ov:Ov) (H:List HB):Ox:=
 match c with
 | .skip=>some (.normal,ov,H)
 | .region ops=>match Nv call base n ops ov H with | some (ov',H')=>some (.normal,ov',H') | none=>none
 | .draw ops ws=>match eDraw call base n ops ws ov H with | some (ov',H')=>some (.normal,ov',H') | none=>none
 | .seq a b=>match rec a ov H with
   | some (.normal,ov',H')=>rec b ov' H'
   | r=>r
 | .cond c a b=>match lk base ov c with
   | .bool true=>rec a ov H
   | .bool false=>rec b ov H
   | _=>none
 | .block id a=>match rec a ov H with
   | some (.exit i,ov',H')=>match Nat.beq i id with
     | true=>some (.normal,ov',H')
     | false=>some (.exit i,ov',H')
   | r=>r
 | .loop a=>match rec a ov H with
   | some (.normal,ov',H')=>rec (.loop a) ov' H'
   | r=>r
 | .exit id=>some (.exit id,ov,H)
 | .ret=>some (.ret,ov,H)
 | .bad=>none
noncomputable def Pn (call:D7) (base:List AV) (n:Nat) (fuel:Nat):AC→Ov→List HB→Ox:=
 Nat.rec (motive:=fun _=>AC→Ov→List HB→Ox) (fun _ _ _=>none) (fun _ ih=>Hy call base n ih) fuel
theorem Alh (call:D7) (base:List AV) (n fuel:Nat) (c:AC) (ov:Ov) (H:List HB):Pn call base n (fuel+1) c ov H=Hy call base n (Pn call base n fuel) c ov H:=rfl
def aRes1E (ρ :AR→AV) (H:List HB):Dv→Option AV
 | .tmp i=>some (ρ (.tmp i))
 | .cell i ag n=>match ρ (.tmp i) with
   | .ptr b off=>match H[b]? with
     | some (.var cs)=>Bc ag n (cs.drop off)
     | _=>none
   | _=>none
def Ym (ρ :AR→AV) (H:List HB):List Dv→Option (List AV)
 | []=>some []
 | r :: rs=>(aRes1E ρ H r).bind fun v=>(Ym ρ H rs).map (v :: ·)
def aResE (ρ :AR→AV) (H:List HB) (rs:List Dv):Option AV:=
 (Ym ρ H rs).map fun vs=>match vs with | [v]=>v | vs=>.tup vs
theorem Ap8 (t:List AV) (H:List HB) (rs:List Dv):aResE (aev t) H rs=A9 t H rs:=by
 have h1: ∀r,aRes1E (aev t) H r=Bb t H r:=fun r=>by cases r<;>rfl
 have h2: ∀rs,Ym (aev t) H rs=A8 t H rs:=fun rs=>by
  induction rs with
  | nil=>rfl
  | cons r rs ih=>simp only[Ym,A8,h1,ih]
 simp only[aResE,A9,h2]
 rfl
noncomputable def eFin (base:List AV) (rs:List Dv) (n:Nat) (r:Ox):Option (AV × List HB):=
 match r with
 | some (.exit _,_,_)=>none
 | some (_,ov,H)=>match aResE (lk base ov) H rs with
   | some v=>if n≤H.length then
    if v.strip.inScope n=true∧As n (H.take n)=true then some (v.strip,H.take n)
    else if v.strip.inScope H.length=true∧As H.length H=true then some (v.strip,H) else none
    else none
   | none=>none
 | none=>none
noncomputable def eCall (tab:FuncId→Option (AC × Nat × List Dv)) (prim:D7) (fuel:Nat):D7:=
 Nat.rec (motive:=fun _=>D7) (fun _ _ _=>none) (fun _ ih f args H=>match prim f args H with
  | some r=>some r
  | none=>match tab f with
    | some (ac,nt,rs)=>fLs (fV 1) args fun args=>fSp (start args nt) fun base=>eFin base rs H.length (Pn ih base base.length 1000 ac [] H)
    | none=>none) fuel
section
variable {P:Program} {call:D7} (hcall: ∀f args H v H',call f args H=some (v,H')→Ab P f args H v H')
include hcall
theorem Az0 {op:AOp} {t:List AV} {H H':List HB} {v:AV} (h:eOp call op (aev t) H=some (v,H')) {K:AV→List HB→Prop} (hK:K v H'):opC P op t H K:=by
 cases op
 case call f args=>
  simp only[eOp] at h
  simp only[opC,Lj]
  split at h
  · rename_i hf;rw[hf]; exact .inl ⟨v,H',(hcall _ _ _ _ _ h).res,hK⟩
  · cases h
 all_goals
  simp only[eOp] at h
  simp only[opC,h]
  exact hK
theorem Ab7 {base:List AV} : ∀(l:List AO) {ov ov':Ov} {H H':List HB} {K:List AV→List HB→Prop},Fa base ov→Nv call base base.length l ov H=some (ov',H')→(Fa base ov'→K (Dw base ov') H')→Li P l (Dw base ov) H K
 | [],ov,ov',H,H',K,ho,h,hK=>by
   simp only[eRun_nil,Option.some.injEq,Prod.mk.injEq] at h
   obtain⟨rfl,rfl⟩:=h;exact hK ho
 | o :: l,ov,ov',H,H',K,ho,h,hK=>by
   rw[A0w,Q9 ho,An5] at h
   simp only[Li]
   cases hg:A7 (Dw base ov) o.guard
   · rw[hg] at h
     obtain⟨ov1,h1,h2⟩:=Anb h
     obtain⟨p1,p2⟩:=Ui ho h1
     rw[I6,← p2]; exact Ab7 l p1 h2 hK
   · rw[hg] at h;rw[Qe]
     obtain⟨v,H1,ov1,h1,h2,h3⟩:=Aix h
     obtain⟨p1,p2⟩:=Ui ho h2
     refine Az0 hcall h1 ?_
     rw[← p2]; exact Ab7 l p1 h3 hK
theorem Ar8 {V:Nat→Bool} {nq:Bool} {H0:List HB} {op:AOp} {t:List AV} {H H':List HB} {v:AV} (h:P9 call V nq H0 op (aev t) H=some (v,H')) {K:AV→List HB→Prop} (hK:K v H'):Em P V nq H0 op t H K:=by
 cases op
 case call f args=>
  simp only[P9] at h
  simp only[Em]
  split at h
  · rename_i n a b hf
    cases nq
    · rw[I6]
      simp only[Oc,hf]
      obtain⟨rfl,hs,hs2,hv⟩:=Aw4 h
      exact⟨v,fun H2 _=>(((hcall _ _ _ _ _ hv).lift hs hs2 H2).args rfl).res,hK⟩
    · rw[Qe]
      simp only[Lj,hf]
      simp only at h
      split at h
      · rename_i v1 H1 hv
        split at h
        · rename_i hk
          simp only[Option.some.injEq,Prod.mk.injEq] at h
          obtain⟨rfl,rfl⟩:=h
          exact⟨v1,H1,(hcall _ _ _ _ _ hv).res,Aof hk,hK⟩
        · cases h
      · cases h
  · cases h
 case load ag n x=>
  simp only[P9] at h
  simp only[Em]
  cases nq
  · rw[I6]
    simp only[Option.map_eq_some_iff,Prod.mk.injEq] at h
    obtain⟨v1,h1,rfl,rfl⟩:=h
    rw[h1]; exact hK
  · rw[Qe]
    simp only at h
    rw[h]; exact hK
 all_goals
  simp only[P9] at h
  simp only[Em,h]
  exact hK
theorem Xz {base:List AV} {V:Nat→Bool} {nq:List Nat} {H0:List HB} : ∀(l:List AO) {k:Nat} {ov ov':Ov} {H H':List HB} {K:List AV→List HB→Prop},Fa base ov→eD call base base.length V nq H0 l k ov H=some (ov',H')→(Fa base ov'→K (Dw base ov') H')→Ds P V nq H0 k l (Dw base ov) H K
 | [],k,ov,ov',H,H',K,ho,h,hK=>by
   have h':some (ov,H)=some (ov',H'):=h
   simp only[Option.some.injEq,Prod.mk.injEq] at h'
   obtain⟨rfl,rfl⟩:=h';exact hK ho
 | o :: l,k,ov,ov',H,H',K,ho,h,hK=>by
   rw[eD_cons,Q9 ho,An5] at h
   simp only[Ds]
   cases hg:A7 (Dw base ov) o.guard
   · rw[hg] at h
     obtain⟨ov1,h1,h2⟩:=Anb h
     obtain⟨p1,p2⟩:=Ui ho h1
     rw[I6,← p2]; exact Xz l p1 h2 hK
   · rw[hg] at h;rw[Qe]
     obtain⟨v,H1,ov1,h1,h2,h3⟩:=Aix h
     obtain⟨p1,p2⟩:=Ui ho h2
     refine Ar8 hcall h1 ?_
     rw[← p2]; exact Xz l p1 h3 hK
variable {base:List AV}
theorem Rl (hm:P.follows .mixedOrders=true) {V:Nat→Bool} {nq:List Nat} {ops:List AO} {ws:List (List Nat)} {ov ov':Ov} {H H':List HB} (ho:Fa base ov) (h:eDC call base base.length V nq ops ws ov H=some (ov',H')) {Q:Bg} (hK:Fa base ov'→Q .normal (Dw base ov') H'):AWp P (.draw ops ws) (Dw base ov) H Q:=by
 unfold eDC at h
 split at h
 · rename_i hl
   exact AWp.drawC hm V nq hl (Xz hcall ops ho h hK)
 · cases h
theorem Ae7 (hm:P.follows .mixedOrders=true) {V:Nat→Bool} {nq:List Nat} {ops:List AO} {ws:List (List Nat)} {ov ov':Ov} {H H':List HB} (ho:Fa base ov) (h:eDF call base base.length V nq ops ws ov H=some (ov',H')) {Q:Bg} (hK:Fa base ov'→Q .normal (Dw base ov') H'):AWp P (.draw ops ws) (Dw base ov) H Q:=by
 unfold eDF at h
 split at h
 · rename_i hl
   rw[Bool.and_eq_true] at hl
   split at h
   · rename_i t1 H1 h1
     split at h
     · rename_i hk
       simp only[Option.some.injEq,Prod.mk.injEq] at h
       obtain⟨rfl,rfl⟩:=h
       exact AWp.drawF hm V nq hl.1 hl.2 (Xz hcall ops ho h1 fun ho'=>⟨Aof hk,hK ho'⟩)
     · cases h
   · cases h
 · cases h
theorem Axz (hm:P.follows .mixedOrders=true) {ops:List AO} {ws:List (List Nat)} {ov ov':Ov} {H H':List HB} (ho:Fa base ov) (h:eDraw call base base.length ops ws ov H=some (ov',H')) {Q:Bg} (hK:Fa base ov'→Q .normal (Dw base ov') H'):AWp P (.draw ops ws) (Dw base ov) H Q:=by
 have or: ∀{x:Option (Ov × List HB)} {y:Unit→Option (Ov × List HB)} {r:Ov × List HB},orE x y=some r→x=some r∨y ()=some r:=by
  intro x y r h
  cases x
  · exact .inr h
  · exact .inl h
 unfold eDraw at h
 rcases or h with h | h
 · exact Rl hcall hm ho h hK
 rcases or h with h | h
 · exact Rl hcall hm ho h hK
 · split at h
   · cases h
   · rcases or h with h | h
     · exact Rl hcall hm ho h hK
     rcases or h with h | h
     · exact Rl hcall hm ho h hK
     rcases or h with h | h
     · exact Rl hcall hm ho h hK
     rcases or h with h | h
     · exact Ae7 hcall hm ho h hK
     · exact Ae7 hcall hm ho h hK
theorem Avq (hm:P.follows .mixedOrders=true): ∀(n:Nat) (c:AC) {ov ov':Ov} {H H':List HB} {x:AX},Fa base ov→Pn call base base.length n c ov H=some (x,ov',H')→AWp P c (Dw base ov) H fun x1 t1 H1=>Fa base ov'∧x1=x∧t1=Dw base ov'∧H1=H':=by
 intro n
 induction n using Nat.strongRecOn with
 | _ n ih=>
   intro c ov ov' H H' x ho h
   cases n with
   | zero=>cases h
   | succ n=>
     rw[Alh] at h
     have ih0:=@ih n (by omega)
     cases c
     case skip=>
      simp only[Hy,Option.some.injEq,Prod.mk.injEq] at h
      obtain⟨rfl,rfl,rfl⟩:=h
      exact AWp.skip ⟨ho,rfl,rfl,rfl⟩
     case exit id=>
      simp only[Hy,Option.some.injEq,Prod.mk.injEq] at h
      obtain⟨rfl,rfl,rfl⟩:=h
      exact AWp.exit ⟨ho,rfl,rfl,rfl⟩
     case ret=>
      simp only[Hy,Option.some.injEq,Prod.mk.injEq] at h
      obtain⟨rfl,rfl,rfl⟩:=h
      exact AWp.ret ⟨ho,rfl,rfl,rfl⟩
     case bad=>simp[Hy] at h
     case region ops=>
      simp only[Hy] at h
      split at h
      · rename_i t1 H1 h1
        simp only[Option.some.injEq,Prod.mk.injEq] at h
        obtain⟨rfl,rfl,rfl⟩:=h
        exact AWp.region (Hu (Ab7 hcall ops ho h1 fun ho'=>⟨ho',rfl,rfl,rfl⟩))
      · cases h
     case draw ops ws=>
      simp only[Hy] at h
      split at h
      · rename_i t1 H1 h1
        simp only[Option.some.injEq,Prod.mk.injEq] at h
        obtain⟨rfl,rfl,rfl⟩:=h
        exact Axz hcall hm ho h1 fun ho'=>⟨ho',rfl,rfl,rfl⟩
      · cases h
     case seq a b=>
      simp only[Hy] at h
      refine AWp.seq ?_
      split at h
      · rename_i t1 H1 h1
        refine (ih0 a ho h1).mono ?_
        rintro y t2 H2 ⟨ho1,rfl,rfl,rfl⟩
        exact ih0 b ho1 h
      · rename_i h1
        refine (ih0 a ho h).mono ?_
        rintro y t2 H2 ⟨ho1,rfl,rfl,rfl⟩
        cases y
        · exact absurd h (h1 _ _)
        · exact⟨ho1,rfl,rfl,rfl⟩
        · exact⟨ho1,rfl,rfl,rfl⟩
     case cond e a b=>
      simp only[Hy,Q9 ho] at h
      split at h
      · rename_i he
        exact AWp.cond he (fun _=>ih0 a ho h) (fun e=>by cases e)
      · rename_i he
        exact AWp.cond he (fun e=>by cases e) (fun _=>ih0 b ho h)
      · cases h
     case block id a=>
      simp only[Hy] at h
      refine AWp.block ?_
      split at h
      · rename_i i t1 H1 h1
        refine (ih0 a ho h1).mono ?_
        rintro y t2 H2 ⟨ho1,rfl,rfl,rfl⟩
        simp only[Rb]
        split at h<;>rename_i hi
        · rw[if_pos (Nat.eq_of_beq_eq_true hi)]
          simp only[Option.some.injEq,Prod.mk.injEq] at h
          obtain⟨rfl,rfl,rfl⟩:=h
          exact⟨ho1,rfl,rfl,rfl⟩
        · rw[if_neg (Nat.ne_of_beq_eq_false hi)]
          simp only[Option.some.injEq,Prod.mk.injEq] at h
          obtain⟨rfl,rfl,rfl⟩:=h
          exact⟨ho1,rfl,rfl,rfl⟩
      · rename_i h1
        refine (ih0 a ho h).mono ?_
        rintro y t2 H2 ⟨ho1,rfl,rfl,rfl⟩
        cases y
        · exact⟨ho1,rfl,rfl,rfl⟩
        · exact absurd h (h1 _ _ _)
        · exact⟨ho1,rfl,rfl,rfl⟩
     case loop a=>
      refine AWp.loop (fun m t1 H1=>m≤n+1∧∃ov1,Fa base ov1∧t1=Dw base ov1∧Pn call base base.length m (.loop a) ov1 H1=some (x,ov',H')) (n+1) ⟨Nat.le_refl _,ov,ho,rfl,h⟩ ?_
      rintro m t1 H1 ⟨hm1,ov1,ho1,rfl,h1⟩
      cases m with
      | zero=>cases h1
      | succ m=>
        rw[Alh] at h1
        have ihm:=@ih m (by omega)
        simp only[Hy] at h1
        split at h1
        · rename_i t2 H2 h2
          refine (ihm a ho1 h2).mono ?_
          rintro y t3 H3 ⟨ho2,rfl,rfl,rfl⟩
          exact⟨m,by omega,by omega,_,ho2,rfl,h1⟩
        · rename_i h2
          refine (ihm a ho1 h1).mono ?_
          rintro y t3 H3 ⟨ho2,rfl,rfl,rfl⟩
          cases y
          · exact absurd h1 (h2 _ _)
          · exact⟨ho2,rfl,rfl,rfl⟩
          · exact⟨ho2,rfl,rfl,rfl⟩
end
theorem Awy {base:List AV} {rs:List Dv} {n:Nat} {r:Ox} {v:AV} {H':List HB} (h:eFin base rs n r=some (v,H')): ∃x ov H,r=some (x,ov,H)∧(Fa base ov→fin rs v H' x (Dw base ov) H)∧n≤H'.length:=by
 unfold eFin at h
 split at h
 · cases h
 · rename_i x ov H hx
   split at h
   · rename_i u hu
     split at h
     · rename_i hn
       have hx':x= .normal∨x= .ret:=by
        cases x
        · exact .inl rfl
        · rename_i i;exact (hx i rfl).elim
        · exact .inr rfl
       split at h
       · rename_i hs
         simp only[Option.some.injEq,Prod.mk.injEq] at h
         obtain⟨rfl,rfl⟩:=h
         have hl:(H.take n).length=n:=by simp;omega
         exact⟨x,ov,H,rfl,fun ho=>⟨hx',⟨u,by rw[← Ap8,← Q9 ho]; exact hu,rfl⟩,⟨H.drop n,by simp⟩,by rw[hl]; exact hs.1,by rw[hl]; exact hs.2⟩,by omega⟩
       · split at h
         · rename_i hs
           simp only[Option.some.injEq,Prod.mk.injEq] at h
           obtain⟨rfl,rfl⟩:=h
           exact⟨x,ov,H,rfl,fun ho=>⟨hx',⟨u,by rw[← Ap8,← Q9 ho]; exact hu,rfl⟩,⟨[],by simp⟩,hs.1,hs.2⟩,hn⟩
         · cases h
     · cases h
   · cases h
 · cases h
theorem I5 {P:Program} (hm:P.follows .mixedOrders=true) {tab:FuncId→Option (AC × Nat × List Dv)} {prim:D7} (hT: ∀f ac n rs,tab f=some (ac,n,rs)→Ad P f ac n rs)
 (hP: ∀f args H v H',prim f args H=some (v,H')→Ab P f args H v H'): ∀(n:Nat) (f:FuncId) (args:List AV) (H:List HB) (v:AV) (H':List HB),eCall tab prim n f args H=some (v,H')→Ab P f args H v H'
 | 0,_,_,_,_,_,h=>by cases h
 | n+1,f,args,H,v,H',h=>by
   have h':(match prim f args H with
    | some r=>some r
    | none=>match tab f with
      | some (ac,nt,rs)=>fLs (fV 1) args fun args=>fSp (start args nt) fun base=>eFin base rs H.length (Pn (eCall tab prim n) base base.length 1000 ac [] H)
      | none=>none)=some (v,H'):=h
   clear h
   split at h'
   · rename_i r hr
     simp only[Option.some.injEq] at h';subst h'
     exact hP _ _ _ _ _ hr
   · split at h'
     · rename_i ac nt rs ht
       rw[Jr (Yp 1),fSp_eq] at h'
       obtain⟨x,ov,H1,h1,h2,h3⟩:=Awy h'
       refine Ab.of (hT _ _ _ _ ht) h3 ((Avq (I5 hm hT hP n) hm _ _ (fun p hp=>by simp at hp) h1).mono ?_)
       rintro y t2 H2 ⟨ho,rfl,rfl,rfl⟩
       exact h2 ho
     · cases h'
end Go.Proofs.YtemdkfnenjpioaaGreatDoor
