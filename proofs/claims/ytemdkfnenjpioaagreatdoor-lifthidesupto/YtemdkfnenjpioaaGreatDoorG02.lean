/- Joined: Snd4 Snd5 Snd6 Snd7 Snd8 Snd9. -/
import Derived.Test.YtemdkfnenjpioaaGreatDoorG01
import Derived.Laws.Append
set_option linter.unusedSimpArgs false
set_option linter.unusedVariables false
set_option linter.unusedSectionVars false
set_option linter.all false
set_option maxHeartbeats 4000000
set_option maxRecDepth 10000
namespace Go.Proofs.YtemdkfnenjpioaaGreatDoor
open Go
section
variable {F:Addr→Prop} {g:Gh} {w:World} {P:Program} {H H':List HB} {t:List AV} {a:Act} {o:Oper} {v:AV} (hs:St F g H w) (ht:Tm F g w t a)
include hs ht
theorem ok_mov {x:Operand} {y:AR} (ho:o.op= .move x∨o.op= .assign x) (hx:cvX x=some y) (he:Ar (.mov y) (aev t) H=some (v,H')):Bq P o a F g H w v H':=by
 simp only[Ar,Option.some.injEq,Prod.mk.injEq] at he
 obtain⟨rfl,rfl⟩:=he
 refine Bq.pure hs (u:=a.eval x) ?_ (Cm ht hx)
 rcases ho with ho | ho<;>simp only[execOp,ho]<;>rfl
theorem ok_pick {c x x':Operand} {d y y':AR} (ho:o.op= .pick c x x') (hc:cvX c=some d) (hx:cvX x=some y) (hx':cvX x'=some y') (he:Ar (.pick d y y') (aev t) H=some (v,H')):Bq P o a F g H w v H':=by
 simp only[Ar] at he
 split at he
 · rename_i b hb
   simp only[Option.some.injEq,Prod.mk.injEq] at he
   obtain⟨rfl,rfl⟩:=he
   have h:=Cm ht hc
   rw[hb] at h
   have h':=J2 h
   refine Bq.pure hs (u:=if b then a.eval x else a.eval x') ?_ ?_
   · simp only[execOp,ho,h',asBool,Sem.run_bind,Sem.run_pure,Result.andThen_ok]
   · cases b
     · exact Cm ht hx'
     · exact Cm ht hx
 · cases he
theorem ok_load {ty:TypeId} {x:Operand} {y:AR} {ag:Bool} {i:TypeInfo} (ho:o.op= .load ty x) (h1:O9 P ty=some ag) (h2:P.info? ty=some i) (hx:cvX x=some y) (_h0:0 < i.size∧(ag=true∨i.size=1))
 (he:Ar (.load ag i.size y) (aev t) H=some (v,H')):Bq P o a F g H w v H':=by
 have hr:=Cm ht hx
 have key: ∀(B off:Nat) (cs:List AV) (vs:List Value),a.eval x= .pointer (some ⟨B,off,none⟩)→RL F g w cs vs→(∀ (j:Nat) (v:Value),vs[j]? =some v→w.cell? ⟨B,off+j,none⟩=some v)→(Bc ag i.size cs).map (·,H)=some (v,H')→Bq P o a F g H w v H':=by
  intro B off cs vs hv hrl hcell h
  simp only[Option.map_eq_some_iff,Prod.mk.injEq] at h
  obtain⟨z,hz,rfl,rfl⟩:=h
  obtain⟨q1,q2,q3⟩:=Aqs hz hrl
  obtain⟨l1,l2⟩:=Aou h1 h2 hcell
  rw[Dh hrl] at q1
  cases ag with
  | true=>
    refine Bq.pure hs (u:=.agg (vs.take i.size).toArray) ?_ (q2 rfl)
    simp only[execOp,ho,Instr.loadAt,hv,Instr.sureAddr,Sem.run_bind,Sem.run_pure,Result.andThen_ok,l1 rfl q1]
  | false=>
    obtain⟨u,r,e1,e2⟩:=q3 rfl
    refine Bq.pure hs (u:=u) ?_ e2
    simp only[execOp,ho,Instr.loadAt,hv,Instr.sureAddr,Sem.run_bind,Sem.run_pure,Result.andThen_ok,l2 rfl u r e1]
 simp only[Ar] at he
 split at he
 · rename_i b off hb
   rw[hb] at hr
   obtain⟨B,q1,q2,q3⟩:=E9 hr
   split at he
   · rename_i cs hcs
     obtain⟨B',vs,e,p1,p2,p3,p4,p5⟩:=hs.var b cs hcs
     rw[q1] at p1;cases p1
     refine key B off (cs.drop off) (vs.toList.drop off) q3 (Oq p4 off) (fun j u hj=>?_) he
     simp only[World.cell?,p3,Option.isSome_none,Bool.false_eq_true,if_false]
     rw[List.getElem?_drop] at hj
     simpa using hj
   · rename_i e cs hcs
     obtain⟨B',vs,p1,p2,p3,p4,p5⟩:=hs.tvar b e cs hcs
     rw[q1] at p1;cases p1
     refine key B off (cs.drop off) (vs.toList.drop off) q3 (Oq p4 off) (fun j u hj=>?_) he
     simp only[World.cell?,p3,Option.isSome_none,Bool.false_eq_true,if_false]
     rw[List.getElem?_drop] at hj
     simpa using hj
   · cases he
 · rename_i cs hb
   rw[hb] at hr
   obtain⟨B,off,q1,q2⟩:=Vr hr
   obtain⟨vs,_,p2,p3⟩:=Adu q2
   exact key B off cs vs q1 p2 (fun j u hj=>(p3 j u hj).1) he
 · cases he
theorem ok_faddr {s:TypeId} {x:Operand} {f:Nat} {y:AR} {fs:Array Field} {fd:Field} {i:TypeInfo} (ho:o.op= .fieldAddr s x f) (h1:P.underlying s=some (.struct fs)) (h2:fs[f]? =some fd) (h3:P.info? fd.type=some i) (h4:0 < i.size)
 (hx:cvX x=some y) (he:Ar (.faddr fd.offset y) (aev t) H=some (v,H')):Bq P o a F g H w v H':=by
 have hr:=Cm ht hx
 have run: ∀B off,a.eval x= .pointer (some ⟨B,off,none⟩)→(execOp a.eval o).run P w= .ok (.value (.pointer (some ⟨B,off+fd.offset,none⟩))) w:=by
  intro B off hv
  simp only[execOp,ho,Instr.fieldAt,hv,Instr.sureAddr,fieldPlace,Sem.run_bind,Sem.run_pure,Result.andThen_ok,Cv h1,h2,Gm h3,if_neg (Nat.ne_of_gt h4),Iv]
 simp only[Ar] at he
 split at he
 · rename_i b off hb
   rw[hb] at hr
   obtain⟨B,q1,q2,q3⟩:=E9 hr
   simp only[Option.some.injEq,Prod.mk.injEq] at he
   obtain⟨rfl,rfl⟩:=he
   refine Bq.pure hs (run B off q3) ?_
   simp only[R]; exact⟨B,q1,q2,rfl⟩
 · rename_i cs hb
   rw[hb] at hr
   obtain⟨B,off,q1,q2⟩:=Vr hr
   simp only[Option.some.injEq,Prod.mk.injEq] at he
   obtain⟨rfl,rfl⟩:=he
   refine Bq.pure hs (run B off q1) ?_
   simp only[R]; exact⟨B,_,rfl,Agm q2 _⟩
 · cases he
theorem ok_iaddr {ty:TypeId} {x ix:Operand} {y z:AR} {e:TypeId} {i:TypeInfo} (ho:o.op= .indexAddr ty x ix) (h1:P.underlying ty=some (.slice e)) (h2:P.info? e=some i) (_h3:0 < i.size)
 (hx:cvX x=some y) (hi:cvX ix=some z) (he:Ar (.iaddr i.size y z) (aev t) H=some (v,H')):Bq P o a F g H w v H':=by
 have hr:=Cm ht hx
 have hn:=Cm ht hi
 simp only[Ar] at he
 split at he
 · rename_i tok els k n q1 q2
   rw[q1] at hr;rw[q2] at hn
   obtain⟨hn1,_⟩:=E1 hn
   split at he
   · rename_i hpos
     split at he
     · rename_i row hrow
       split at he
       · rename_i hlen
         simp only[Option.some.injEq,Prod.mk.injEq] at he
         obtain⟨rfl,rfl⟩:=he
         obtain⟨_,⟨rfl,_⟩ | ⟨B,off,sp,cap,k',r1,r2,⟨r3,rfl | rfl⟩,r4,r5⟩⟩:=Ep hr
         · simp at hrow
         · simp at hrow
         · obtain⟨s1,s2⟩:=Sh r4 _ _ hrow
           have hlt:n.toNat < els.length:=(List.getElem?_eq_some_iff.1 hrow).1
           refine Bq.pure hs (u:=.pointer (some ⟨B,off+n.toNat * i.size,none⟩)) ?_ ?_
           · simp only[execOp,ho,Instr.indexAt,hn1,r1,asIntOf,Sem.run_bind,Sem.run_pure,Result.andThen_ok,Cv h1]
             have:0≤n∧n < (els.length:Int):=⟨hpos,by omega⟩
             simp only[this,and_self,if_true,Sem.run_bind,Gm h2,Result.andThen_ok,Sem.run_pure,Iv]
           · simp only[R]; exact⟨B,_,rfl,by rw[← hlen,s1]; exact s2⟩
       · cases he
     · cases he
   · cases he
 · rename_i b m k n q1 q2
   rw[q1] at hr;rw[q2] at hn
   obtain⟨hn1,_⟩:=E1 hn
   split at he
   · rename_i hlt
     simp only[Option.some.injEq,Prod.mk.injEq] at he
     obtain⟨rfl,rfl⟩:=he
     simp only[R] at hr
     obtain⟨B,cap,r1,r2,r3,r4⟩:=hr
     refine Bq.pure hs (u:=.pointer (some ⟨B,0+n.toNat * i.size,none⟩)) ?_ ?_
     · simp only[execOp,ho,Instr.indexAt,hn1,r3,asIntOf,Sem.run_bind,Sem.run_pure,Result.andThen_ok,Cv h1]
       simp only[hlt,and_self,if_true,Sem.run_bind,Gm h2,Result.andThen_ok,Sem.run_pure,Iv]
     · simp only[R,Nat.zero_add]; exact⟨B,r1,r2,rfl⟩
   · cases he
 · cases he
theorem ok_sidx {ty:TypeId} {x ix:Operand} {y z:AR} (ho:o.op= .index ty x ix) (h1:P.underlying ty=some .string)
 (hx:cvX x=some y) (hi:cvX ix=some z) (he:Ar (.sidx y z) (aev t) H=some (v,H')):Bq P o a F g H w v H':=by
 have hr:=Cm ht hx
 have hn:=Cm ht hi
 simp only[Ar] at he
 split at he
 · rename_i s k n q1 q2
   rw[q1] at hr;rw[q2] at hn
   obtain⟨hn1,_⟩:=E1 hn
   obtain⟨hs1,_⟩:=Jv hr
   split at he
   · rename_i hpos
     split at he
     · rename_i c hc
       simp only[Option.some.injEq,Prod.mk.injEq] at he
       obtain⟨rfl,rfl⟩:=he
       refine Bq.pure hs (u:=.int .u8 c.toNat) ?_ ?_
       · simp only[execOp,ho,Instr.index,hn1,hs1,asIntOf,Sem.run_bind,Sem.run_pure,Result.andThen_ok,Cv h1]
         have hlt:=(List.getElem?_eq_some_iff.1 hc).1
         have:(⟨s.toArray⟩:ByteArray)[n.toNat]? =some c:=by
          rw[getElem?_pos _ _ (by show _ < ByteArray.size _;simpa[ByteArray.size] using hlt)]
          congr 1
          have:=(List.getElem?_eq_some_iff.1 hc).2
          simpa[ByteArray.getElem_eq_getElem_data] using this
         simp only[hpos,if_true,this,Sem.run_pure,Result.andThen_ok]
       · simp only[R]; exact⟨trivial,by
          have:=c.toNat_lt
          unfold IntKind.has IntKind.min IntKind.max IntKind.signed IntKind.bits
          simp;omega⟩
     · cases he
   · cases he
 · cases he
theorem A1f {x:Operand} {n:Nat} {y:AR} (ho:o.op= .extract x n) (hx:cvX x=some y) (he:Ar (.extract y n) (aev t) H=some (v,H')):Bq P o a F g H w v H':=by
 have hr:=Cm ht hx
 simp only[Ar] at he
 split at he
 · rename_i vs q1
   rw[q1] at hr
   obtain⟨arr,h1,h2⟩:=R_tup hr
   simp only[Option.map_eq_some_iff,Prod.mk.injEq] at he
   obtain⟨z,hz,rfl,rfl⟩:=he
   obtain⟨u,e1,e2⟩:=I7 h2 n z hz
   refine Bq.pure hs (u:=u) ?_ e2
   have:arr[n]? =some u:=by simpa using e1
   simp only[execOp,ho,h1,Instr.extract,this,Sem.run_bind,Sem.run_pure,Result.andThen_ok]
 · cases he
theorem ok_nilck {x:Operand} {y:AR} (ho:o.op= .nilCheck x) (hx:cvX x=some y) (he:Ar (.nilck y) (aev t) H=some (v,H')):Bq P o a F g H w v H':=by
 have hr:=Cm ht hx
 simp only[Ar] at he
 split at he
 · rename_i b off q1
   rw[q1] at hr
   obtain⟨B,_,_,q3⟩:=E9 hr
   simp only[Option.some.injEq,Prod.mk.injEq] at he
   obtain⟨rfl,rfl⟩:=he
   refine Bq.pure hs (u:=a.eval x) ?_ hr
   simp only[execOp,ho,q3]; rfl
 · rename_i cs q1
   rw[q1] at hr
   obtain⟨B,off,q3,_⟩:=Vr hr
   simp only[Option.some.injEq,Prod.mk.injEq] at he
   obtain⟨rfl,rfl⟩:=he
   refine Bq.pure hs (u:=a.eval x) ?_ hr
   simp only[execOp,ho,q3]; rfl
 · rename_i f a1 a2 q1
   rw[q1] at hr
   obtain⟨b1,b2,q3,_⟩:=Ou hr
   simp only[Option.some.injEq,Prod.mk.injEq] at he
   obtain⟨rfl,rfl⟩:=he
   refine Bq.pure hs (u:=a.eval x) ?_ hr
   simp only[execOp,ho,q3]; rfl
 · cases he
theorem ok_mkif {ty:TypeId} {x:Operand} {y:AR} {d:TypeDesc} (ho:o.op= .makeInterface ty x) (h1:P.underlying ty=some d) (h2: ∀ms,d≠.interface ms) (hx:cvX x=some y) (he:Ar (.mkif ty y) (aev t) H=some (v,H')):Bq P o a F g H w v H':=by
 simp only[Ar,Option.some.injEq,Prod.mk.injEq] at he
 obtain⟨rfl,rfl⟩:=he
 refine Bq.pure hs (u:=.iface ty (a.eval x)) ?_ (by simp only[R]; exact⟨_,rfl,Cm ht hx⟩)
 simp only[execOp,ho,Instr.makeInterface,Sem.run_bind,Cv h1,Result.andThen_ok]
 cases d<;>first | (exact absurd rfl (h2 _)) | rfl
theorem ok_mkfn {f:Fn} {first cap:Array Operand} {y z:List AR} (ho:o.op= .makeFunc f first cap) (h1:G9 first.toList=some y) (h2:G9 cap.toList=some z) (he:Ar (.mkfn f y z) (aev t) H=some (v,H')):Bq P o a F g H w v H':=by
 simp only[Ar,Option.some.injEq,Prod.mk.injEq] at he
 obtain⟨rfl,rfl⟩:=he
 refine Bq.pure hs (u:=.func f (first.map a.eval) (cap.map a.eval)) (by simp only[execOp,ho,Instr.makeFunc]; rfl) ?_
 simp only[R]; exact⟨_,_,rfl,by simpa using P0 ht h1,by simpa using P0 ht h2⟩
theorem Ar2 {s d:TypeId} {x:Operand} {y:AR} {k k':IntKind} (ho:o.op= .convert s d x) (h1:P.underlying s=some (.int k')) (h2:P.underlying d=some (.int k)) (hx:cvX x=some y) (he:Ar (.convInt k y) (aev t) H=some (v,H')):Bq P o a F g H w v H':=by
 have hr:=Cm ht hx
 simp only[Ar] at he
 split at he
 · rename_i kk n q1
   rw[q1] at hr
   obtain⟨e1,_⟩:=E1 hr
   simp only[Option.some.injEq,Prod.mk.injEq] at he
   obtain⟨rfl,rfl⟩:=he
   refine Bq.pure hs (u:=.int k (k.wrap n)) ?_ (by simp only[R]; exact⟨trivial,Qw _ _⟩)
   simp only[execOp,ho,convert,e1,Sem.run_bind,Cv h1,Cv h2,Result.andThen_ok,Conv.intToInt,Sem.run_pure]
 · cases he
theorem ok_convS {s d:TypeId} {x:Operand} {y:AR} (ho:o.op= .convert s d x) (h1:P.underlying s=some .string) (h2:P.underlying d=some .string) (hx:cvX x=some y) (he:Ar (.convS y) (aev t) H=some (v,H')):Bq P o a F g H w v H':=by
 have hr:=Cm ht hx
 simp only[Ar] at he
 split at he
 · rename_i l hl
   simp only[Option.some.injEq,Prod.mk.injEq] at he
   obtain⟨rfl,rfl⟩:=he
   rw[hl] at hr
   obtain⟨e1,_⟩:=Jv hr
   refine Bq.pure hs (u:=a.eval x) ?_ hr
   simp only[execOp,ho,convert,e1,Sem.run_bind,Cv h1,Cv h2,Result.andThen_ok,Sem.run_pure]
 · cases he
theorem ok_len {c:Call} {x:Operand} {y:AR} {ty e:TypeId} {r:List TypeId} (ho:o.op= .call c) (hb:c.callee= .builtin .len) (ha:c.args.toList=[x]) (hty:c.argTypes.toList=ty :: r) (hu:P.underlying ty=some (.slice e))
 (hx:cvX x=some y) (he:Ar (.len y) (aev t) H=some (v,H')):Bq P o a F g H w v H':=by
 have hr:=Cm ht hx
 simp only[Ar] at he
 split at he
 · rename_i tok els q1
   rw[q1] at hr
   simp only[Option.some.injEq,Prod.mk.injEq] at he
   obtain⟨rfl,rfl⟩:=he
   obtain⟨b,c',hv⟩:=R_sl_val hr
   refine Bq.pure hs (u:=.int .i64 els.length) (Me ho hb (args:=#[a.eval x]) (by simp[Aee ha]) (M9 _ _ _ ?_)) ?_
   · simp only[Builtin.len_,Aao hty,hv,List.getElem?_toArray,List.getElem?_cons_zero,Sem.run_bind,Cv hu,Result.andThen_ok]
     rfl
   · simp only[R]; exact⟨trivial,M7 (Ep hr).1⟩
 · rename_i b m q1
   rw[q1] at hr
   simp only[Option.some.injEq,Prod.mk.injEq] at he
   obtain⟨rfl,rfl⟩:=he
   simp only[R] at hr
   obtain⟨B,cap,r1,r2,hv,r4⟩:=hr
   refine Bq.pure hs (u:=.int .i64 m) (Me ho hb (args:=#[a.eval x]) (by simp[Aee ha]) (M9 _ _ _ ?_)) ?_
   · simp only[Builtin.len_,Aao hty,hv,List.getElem?_toArray,List.getElem?_cons_zero,Sem.run_bind,Cv hu,Result.andThen_ok]
     rfl
   · simp only[R]; exact⟨trivial,M7 r4⟩
 · cases he
theorem ok_slen {c:Call} {x:Operand} {y:AR} {ty:TypeId} {r:List TypeId} (ho:o.op= .call c) (hb:c.callee= .builtin .len) (ha:c.args.toList=[x]) (hty:c.argTypes.toList=ty :: r) (hu:P.underlying ty=some .string)
 (hx:cvX x=some y) (he:Ar (.slen y) (aev t) H=some (v,H')):Bq P o a F g H w v H':=by
 have hr:=Cm ht hx
 simp only[Ar] at he
 split at he
 · rename_i s q1
   rw[q1] at hr
   simp only[Option.some.injEq,Prod.mk.injEq] at he
   obtain⟨rfl,rfl⟩:=he
   obtain⟨hv,hl⟩:=Jv hr
   refine Bq.pure hs (u:=.int .i64 s.length) (Me ho hb (args:=#[a.eval x]) (by simp[Aee ha]) (M9 _ _ _ ?_)) ?_
   · simp only[Builtin.len_,Aao hty,hv,List.getElem?_toArray,List.getElem?_cons_zero,Sem.run_bind,Cv hu,Result.andThen_ok]
     rfl
   · simp only[R]; exact⟨trivial,M7 hl⟩
 · cases he
theorem ok_un {op:UnOp} {ty:TypeId} {x:Operand} {y:AR} (ho:o.op= .unOp op ty x) (hx:cvX x=some y) (he:Ar (.un op y) (aev t) H=some (v,H')):Bq P o a F g H w v H':=by
 have hr:=Cm ht hx
 simp only[Ar] at he
 split at he
 · rename_i b q1
   rw[q1] at hr
   simp only[Option.some.injEq,Prod.mk.injEq] at he
   obtain⟨rfl,rfl⟩:=he
   refine Bq.pure hs (u:=.bool (!b)) ?_ (by simp[R])
   simp only[execOp,ho,J2 hr,Op.unary]; rfl
 · rename_i k n q1
   rw[q1] at hr
   simp only[Option.some.injEq,Prod.mk.injEq] at he
   obtain⟨rfl,rfl⟩:=he
   refine Bq.pure hs (u:=.int k (k.wrap (0 - n))) ?_ (by simp only[R]; exact⟨trivial,Qw _ _⟩)
   simp only[execOp,ho,(E1 hr).1,Op.unary,Op.intArith]; rfl
 · cases he
theorem ok_binB {op:BinOp} {ty yt:TypeId} {x x':Operand} {y y':AR} (ho:o.op= .binOp op ty x x' yt) (hop:op= .eql∨op= .neq) (hb:P.underlying ty=some .bool) (hx:cvX x=some y) (hx':cvX x'=some y')
 (he:Ar (.binB (op= .neq) y y') (aev t) H=some (v,H')):Bq P o a F g H w v H':=by
 have hr:=Cm ht hx
 have hr':=Cm ht hx'
 simp only[Ar] at he
 split at he
 · rename_i b b' q1 q2
   rw[q1] at hr;rw[q2] at hr'
   simp only[Option.some.injEq,Prod.mk.injEq] at he
   obtain⟨rfl,rfl⟩:=he
   refine Bq.pure hs (u:=.bool ((b == b') != decide (op= .neq))) ?_ (by simp[R])
   rcases hop with rfl | rfl
   · simp only[execOp,ho,J2 hr,J2 hr',eqGuard,binOp]
     simp[Aju hb]
   · simp only[execOp,ho,J2 hr,J2 hr',eqGuard,binOp]
     simp[Aju hb]
 · cases he
theorem Au7 {op:BinOp} {ty yt:TypeId} {x x':Operand} {y:AR} {c:NK} (ho:o.op= .binOp op ty x x' yt) (hop:op= .eql∨op= .neq) (hn:Pd P ty x'=some c) (hx:cvX x=some y)
 (he:Ar (.binNil c (op= .neq) y) (aev t) H=some (v,H')):Bq P o a F g H w v H':=by
 have hr:=Cm ht hx
 simp only[Ar,Option.map_eq_some_iff,Prod.mk.injEq] at he
 obtain⟨b,hbn,rfl,rfl⟩:=he
 have heq:=Aq4 hn hr hbn 9999 a
 have heq':(Op.equal ty (a.eval x) (a.eval x')).run P w= .ok b w:=heq
 refine Bq.pure hs (u:=.bool (b != decide (op= .neq))) ?_ (by simp[R])
 obtain⟨n,rfl,hnc⟩:=Axq hn
 simp only[execOp,ho,Sem.run_bind,Atu hop hnc,Result.andThen_ok]
 have hn1:a.eval (.const n)=n:=rfl
 rw[hn1] at heq' ⊢
 rcases hop with rfl | rfl
 · rw[Axp hnc]
   simp[heq']
 · rw[Asa hnc]
   simp[heq']
end
end Go.Proofs.YtemdkfnenjpioaaGreatDoor
namespace Go.Proofs.YtemdkfnenjpioaaGreatDoor
open Go
section
variable {F:Addr→Prop} {g:Gh} {w:World} {P:Program}
theorem W5 (l:List UInt8):(⟨l.toArray⟩:ByteArray).size=l.length:=rfl
theorem A3a (b:ByteArray): ∀(n i:Nat) (r:List UInt8),b.size - i=n→ByteArray.toList.loop b i r=r.reverse++b.data.toList.drop i:=by
 have hs:b.data.toList.length=b.size:=by rw[Array.length_toList]; rfl
 intro n
 induction n with
 | zero=>
   intro i r h
   rw[ByteArray.toList.loop,if_neg (by omega),List.drop_eq_nil_of_le (by omega),List.append_nil]
 | succ n ih=>
   intro i r h
   have hi:i < b.size:=by omega
   rw[ByteArray.toList.loop,if_pos hi,ih (i+1) _ (by omega)]
   have hi':i < b.data.size:=hi
   have hg:b.get! i=b.data.toList[i]'(by omega):=by
    show b.data[i]! =_
    rw[getElem!_pos b.data i hi',Array.getElem_toList]
   rw[List.drop_eq_getElem_cons (show i < b.data.toList.length by omega),hg,List.reverse_cons,List.append_assoc]
   rfl
theorem Aya (l:List UInt8):(⟨l.toArray⟩:ByteArray).toList=l:=by
 have:=A3a ⟨l.toArray⟩ _ 0 [] rfl
 unfold ByteArray.toList
 rw[this]; rfl
theorem Auu {k:IntKind} {a b:Int} (ha:k.has a):k.has (a.tmod b):=by
 have h1:(a.tmod b).natAbs≤a.natAbs:=by
  rw[Int.natAbs_tmod]; exact Nat.mod_le _ _
 have h2:0≤a→0≤a.tmod b:=fun h=>Int.tmod_nonneg b h
 have h3:a≤0→a.tmod b≤0:=by
  intro h
  have:=Int.tmod_nonneg b (a:=-a) (by omega)
  rw[Int.neg_tmod] at this;omega
 unfold IntKind.has at *
 have hk:k.min≤0∧0≤k.max:=by cases k<;>decide
 rcases Int.le_total 0 a with h | h
 · have:=h2 h;omega
 · have:=h3 h;omega
theorem Avh {k:IntKind} {a:Int} (ha:k.has a) (n:Nat):k.has (a.fdiv (2 ^ n)):=by
 have hp:(0:Int) < 2 ^ n:=Int.pow_pos (by decide)
 rw[Int.fdiv_eq_ediv_of_nonneg _ (Int.le_of_lt hp)]
 unfold IntKind.has at *
 have hk:k.min≤0∧0≤k.max:=by cases k<;>decide
 rcases Int.le_total 0 a with h | h
 · have h1:=Int.ediv_nonneg h (Int.le_of_lt hp)
   have h2:=Int.ediv_le_self (2 ^ n) h
   omega
 · have h1:a≤a / 2 ^ n:=by
    rw[Int.le_ediv_iff_mul_le hp]
    have:a * 2 ^ n≤a * 1:=Int.mul_le_mul_of_nonpos_left h (by omega)
    omega
   have h2:a / 2 ^ n≤0:=by
    have:=Int.mul_ediv_self_le (x:=a) (k:=2 ^ n) (by omega)
    rcases Int.lt_or_le 0 (a / 2 ^ n) with hq | hq
    · have:=Int.mul_pos hp hq;omega
    · exact hq
   omega
theorem Aj1 {op:BinOp} {ty:TypeId} {x y:Operand} {u v:Value} (h1:(∃ k n,u= .int k n)∨∃s,u= .string s):(eqGuard op ty x y u v).run P w= .ok () w:=by
 rcases h1 with⟨k,n,rfl⟩ | ⟨s,rfl⟩<;>(unfold eqGuard;cases op<;>cases v<;>simp)
theorem Azl {op:BinOp} {ty:TypeId} {k:IntKind} {a b:Int} {v:AV} (ha:k.has a) (h:Bh op k a b=some v): ∃u,(binOp op ty (.int k a) (.int k b)).run P w= .ok u w∧R F g w v u:=by
 cases op<;>simp only[Bh,Option.some.injEq] at h<;>try (cases h;done)
 case quo=>
  split at h
  · cases h
  · rename_i hb
    simp only[Option.some.injEq] at h;subst h
    exact⟨.int k (k.wrap (a.tdiv b)),by simp[binOp,Op.intDiv,hb],by simp only[R]; exact⟨trivial,Qw _ _⟩⟩
 case rem=>
  split at h
  · cases h
  · rename_i hb
    simp only[Option.some.injEq] at h;subst h
    exact⟨.int k (a.tmod b),by simp[binOp,Op.intDiv,hb],by simp only[R]; exact⟨trivial,Auu ha⟩⟩
 all_goals subst h
 all_goals first
  | exact⟨.int k (k.wrap _),by simp only[binOp,ne_eq,not_true_eq_false,if_false]; rfl,by simp only[R]; exact⟨trivial,Qw _ _⟩⟩
  | exact⟨.bool _,by simp only[binOp,ne_eq,not_true_eq_false,if_false]; rfl,by simp only[R]⟩
theorem Auf {op:BinOp} {ty:TypeId} {a b:List UInt8} {v:AV} (h:Bl op a b=some v): ∃u,(binOp op ty (.string ⟨a.toArray⟩) (.string ⟨b.toArray⟩)).run P w= .ok u w∧R F g w v u:=by
 cases op<;>simp only[Bl,Option.some.injEq] at h<;>try (cases h;done)
 case add=>
  split at h
  · rename_i hl
    simp only[Option.some.injEq] at h;subst h
    refine⟨.string ⟨(a++b).toArray⟩,?_,by simp only[R]; exact⟨trivial,by simpa using hl⟩⟩
    have h1: ¬(((⟨a.toArray⟩:ByteArray).size+(⟨b.toArray⟩:ByteArray).size:Nat):Int) > IntKind.i64.max:=by
     rw[W5,W5]; unfold A4 at hl;unfold IntKind.max IntKind.signed IntKind.bits;simp;omega
    simp only[binOp,Op.stringOp,if_neg h1]
    congr 1
  · cases h
 all_goals subst h
 all_goals exact⟨.bool _,by simp only[binOp,Op.stringOp,Aya]; rfl,by simp only[R]⟩
section
variable {H H':List HB} {t:List AV} {a:Act} {o:Oper} {v:AV} (hs:St F g H w) (ht:Tm F g w t a)
include hs ht
theorem ok_bin {op:BinOp} {ty yt:TypeId} {x x':Operand} {y y':AR} (ho:o.op= .binOp op ty x x' yt) (hx:cvX x=some y) (hx':cvX x'=some y') (he:Ar (.bin op y y') (aev t) H=some (v,H')):Bq P o a F g H w v H':=by
 have hr:=Cm ht hx
 have hr':=Cm ht hx'
 simp only[Ar,Option.map_eq_some_iff,Prod.mk.injEq] at he
 obtain⟨z,hz,rfl,rfl⟩:=he
 unfold Bj at hz
 split at hz
 · rename_i k n k' n' q1 q2
   rw[q1] at hr;rw[q2] at hr'
   obtain⟨e1,b1⟩:=E1 hr
   obtain⟨e2,b2⟩:=E1 hr'
   have key: ∃u,(binOp op ty (.int k n) (.int k' n')).run P w= .ok u w∧R F g w z u:=by
    split at hz
    · split at hz
      · rename_i hn
        simp only[Option.some.injEq] at hz;subst hz
        have: ¬n' < 0:=by omega
        exact⟨_,by simp only[binOp,Op.shift,if_neg this]; rfl,by simp only[R]; exact⟨trivial,Qw _ _⟩⟩
      · cases hz
    · split at hz
      · rename_i hn
        simp only[Option.some.injEq] at hz;subst hz
        have: ¬n' < 0:=by omega
        exact⟨_,by simp only[binOp,Op.shift,if_neg this]; rfl,by simp only[R]; exact⟨trivial,Avh b1 _⟩⟩
      · cases hz
    · split at hz
      · rename_i hk
        subst hk
        exact Azl b1 hz
      · cases hz
   obtain⟨u,h1,h2⟩:=key
   refine Bq.pure hs (u:=u) ?_ h2
   simp only[execOp,ho,Sem.run_bind,e1,e2,Aj1 (.inl ⟨k,n,rfl⟩),Result.andThen_ok,h1,Sem.run_pure]
 · rename_i s s' q1 q2
   rw[q1] at hr;rw[q2] at hr'
   obtain⟨e1,b1⟩:=Jv hr
   obtain⟨e2,b2⟩:=Jv hr'
   obtain⟨u,h1,h2⟩:=Auf (F:=F) (g:=g) (w:=w) (P:=P) (ty:=ty) hz
   refine Bq.pure hs (u:=u) ?_ h2
   simp only[execOp,ho,Sem.run_bind,e1,e2,Aj1 (.inr ⟨_,rfl⟩),Result.andThen_ok,h1,Sem.run_pure]
 · cases hz
end
end
end Go.Proofs.YtemdkfnenjpioaaGreatDoor
namespace Go.Proofs.YtemdkfnenjpioaaGreatDoor
open Go
section
variable {F:Addr→Prop} {g:Gh} {w:World} {P:Program}
theorem Kr {k:IntKind} {n:Int} {y:Nat} {c:BoundsCode} :0≤n→n≤y→(Instr.sliceBound (.int k n) y c).run P w= .ok n.toNat w:=by
 intro h1 h2
 simp only[Instr.sliceBound,asIntOf,Sem.run_bind,Sem.run_pure,Result.andThen_ok,if_pos (And.intro h1 h2)]
def RO (F:Addr→Prop) (g:Gh) (w:World):Option AV→Option Value→Prop
 | none,none=>True
 | some x,some v=>R F g w x v
 | _,_=>False
theorem Qz {t:List AV} {a:Act} (h:Tm F g w t a) {o:Option Operand} {x:Option AR} (hc:cvO o=some x):RO F g w (x.map (aev t)) (o.map a.eval):=by
 cases o with
 | none=>simp only[cvO,Option.some.injEq] at hc;subst hc;trivial
 | some o=>
   simp only[cvO,Option.map_eq_some_iff] at hc
   obtain⟨y,hy,rfl⟩:=hc
   exact Cm h hy
theorem V5 {d:Int} {x:Option AV} {v:Option Value} (h:RO F g w x v) {n:Int} (hn:Gg d x=some n):(v=none∧x=none∧n=d)∨∃k,v=some (.int k n):=by
 cases x with
 | none=>
   cases v with
   | none=>simp only[Gg,Option.some.injEq] at hn;exact .inl ⟨rfl,rfl,hn.symm⟩
   | some _=>exact h.elim
 | some x=>
   cases v with
   | none=>exact h.elim
   | some v=>
     cases x<;>simp only[Gg,Option.some.injEq] at hn<;>try (cases hn;done)
     subst hn
     have h':R F g w (.int _ _) v:=h
     exact .inr ⟨_,by rw[(E1 h').1]⟩
theorem Amp {b:Bool} {len cap:Nat} {lo hi:Option AV} {lv hv:Option Value} (hl:RO F g w lo lv) (hh:RO F g w hi hv) {l h:Int} (e1:Gg 0 lo=some l) (e2:Gg len hi=some h)
 (b1:0≤l) (b2:l≤h) (b3:h≤len) (b4:len≤cap):(Instr.sliceBounds b len cap lv hv none).run P w= .ok (l.toNat,h.toNat,cap) w:=by
 rcases V5 hl e1 with⟨rfl,_,rfl⟩ | ⟨k,rfl⟩<;>rcases V5 hh e2 with⟨rfl,_,rfl⟩ | ⟨k',rfl⟩<;>
  simp only[Instr.sliceBounds,Sem.run_bind,Sem.run_pure,Result.andThen_ok]
 · simp
 · rw[Kr (by omega) (by omega)]; simp
 · rw[Kr (by omega) (by omega)]; simp
 · rw[Kr (by omega) (by omega)]
   simp only[Result.andThen_ok]
   rw[Kr (by omega) (by omega)]; simp
theorem Awe {b:Bool} {len cap:Nat} {lo hi:Option AV} {lv hv:Option Value} (hl:RO F g w lo lv) (hh:RO F g w hi hv) {l h m:Int} {km:IntKind} (e1:Gg 0 lo=some l) (e2:Gg len hi=some h) (e3:hi.isSome=true)
 (b1:0≤l) (b2:l≤h) (b3:h≤m) (b4:m≤cap):(Instr.sliceBounds b len cap lv hv (some (.int km m))).run P w= .ok (l.toNat,h.toNat,m.toNat) w:=by
 rcases V5 hh e2 with⟨_,rfl,_⟩ | ⟨k',rfl⟩
 · simp at e3
 · rcases V5 hl e1 with⟨rfl,_,rfl⟩ | ⟨k,rfl⟩<;>simp only[Instr.sliceBounds,Sem.run_bind]
   · rw[Kr (by omega) (by omega)]
     simp only[Result.andThen_ok]
     rw[Kr (by omega) (by omega)]; simp
   · rw[Kr (by omega) (by omega)]
     simp only[Result.andThen_ok]
     rw[Kr (by omega) (by omega)]
     simp only[Result.andThen_ok]
     rw[Kr (by omega) (by omega)]; simp
theorem Z7 {els:List (List AV)} {B off k k':Nat} (h:RE F g w B off k els) (hk:C0 k' els=true):els=[]∨k=k':=by
 cases els with
 | nil=>exact .inl rfl
 | cons r rs=>
   simp only[RE] at h
   simp only[C0,beq_iff_eq] at hk
   exact .inr (h.1.symm.trans hk)
theorem R_sub {tok:Tok} {els:List (List AV)} {v:Value} (hr:R F g w (.sl tok els) v) {size:Nat} (hk:C0 size els=true) {l h:Nat} (hl:l≤h) (hh:h≤els.length) (mo:Option Nat) (hm: ∀m,mo=some m→h≤m∧m≤els.length):
 ∃b c,v= .slice b els.length c∧els.length≤c∧
  R F g w (.sl (I0 tok els.length l h mo) ((els.take h).drop l)) (.slice (if mo.getD c=l then b else b.map (·.add (l * size))) (h - l) (mo.getD c - l)):=by
 obtain⟨r0,⟨rfl,rfl,r1,r2⟩ | ⟨B,off,sp,cap,k,rfl,c1,c2,c3,c4⟩⟩:=Ep hr
 · simp only[List.length_nil] at hh hm
   have hl0:l=0:=by omega
   have hh0:h=0:=by omega
   subst hl0;subst hh0
   refine⟨none,0,by simp,by simp,?_⟩
   have hmo:mo.getD 0=0:=by
    cases mo with
    | none=>rfl
    | some m=>have:=hm m rfl;simp;omega
   simp only[R,List.take_nil,List.drop_nil,List.length_nil,hmo,Nat.sub_self]
   refine⟨Nat.zero_le _,.inl ⟨trivial,by simp,fun t=>?_,?_⟩⟩
   · cases mo with
     | none=>simp only[I0,and_self,if_true]; exact r1 t
     | some m=>simp only[I0]; split<;>simp
   · cases mo with
     | none=>simp only[I0,and_self,if_true]; exact r2
     | some m=>simp only[I0]; split<;>simp
 · refine⟨some ⟨B,off,sp⟩,cap,rfl,c1,?_⟩
   have hlen:((els.take h).drop l).length=h - l:=by simp;omega
   simp only[R,hlen]
   refine⟨by omega,.inr ?_⟩
   have hmc:h≤mo.getD cap∧mo.getD cap≤cap:=by
    cases mo with
    | none=>simp;omega
    | some m=>have:=hm m rfl;simp;omega
   have hRT: ∀(a':Addr),(l=0→a'=⟨B,off,sp⟩)→RT g (h - l) a' (mo.getD cap - l) (I0 tok els.length l h mo):=by
    intro a' ha'
    cases mo with
    | some m=>
      simp only[I0]
      split
      · rename_i e;subst e;rfl
      · trivial
    | none=>
      simp only[I0]
      split
      · rename_i e
        obtain⟨rfl,rfl⟩:=e
        rw[ha' rfl]
        simpa using c4
      · split
        · rename_i e
          obtain⟨rfl,rfl⟩:=e
          have:cap=els.length:=c4
          simp[RT,this]
        · trivial
   by_cases hml:mo.getD cap=l
   · have:h=l:=by omega
     subst this
     refine⟨B,off,sp,_,k,by rw[if_pos hml],by omega,⟨c2.1,.inl (List.drop_eq_nil_of_le (by rw[List.length_take]; exact Nat.min_le_left _ _))⟩,?_,hRT _ fun _=>rfl⟩
     rw[List.drop_eq_nil_of_le (by rw[List.length_take]; exact Nat.min_le_left _ _)]; simp[RE]
   rcases c2 with⟨c2,rfl | rfl⟩
   · have hl0:l=0:=by simp at hh;omega
     subst hl0
     refine⟨B,off,sp,_,k,by rw[if_neg hml,Option.map_some]; simp[Addr.add],by omega,⟨c2,.inl (by simp)⟩,by simp[RE],hRT _ fun _=>rfl⟩
   · refine⟨B,off+l * size,none,_,k,by rw[if_neg hml,Option.map_some,Iv],by omega,⟨c2,.inr rfl⟩,?_,hRT _ fun e=>by subst e;simp⟩
     rcases Z7 c3 hk with rfl | rfl
     · simp[RE]
     · exact Ah7 (Aj7 c3 h) l
section
variable {H H':List HB} {t:List AV} {a:Act} {o:Oper} {v:AV} (hs:St F g H w) (ht:Tm F g w t a)
include hs ht
theorem ok_slice {ty e:TypeId} {x:Operand} {lo hi mx:Option Operand} {y:AR} {lo' hi' mx':Option AR} {i:TypeInfo} (ho:o.op= .slice ty x lo hi mx) (h1:P.underlying ty=some (.slice e)) (h2:P.info? e=some i) (hx:cvX x=some y)
 (hlo:cvO lo=some lo') (hhi:cvO hi=some hi') (hmx:cvO mx=some mx') (he:Ar (.slice i.size y lo' hi' mx') (aev t) H=some (v,H')):Bq P o a F g H w v H':=by
 have hr:=Cm ht hx
 have rl:=Qz ht hlo
 have rh:=Qz ht hhi
 have rm:=Qz ht hmx
 simp only[Ar] at he
 split at he
 · rename_i tok els q1
   rw[q1] at hr
   split at he
   · rename_i hk
     simp only[Option.map_eq_some_iff,Prod.mk.injEq] at he
     obtain⟨z,hz,rfl,rfl⟩:=he
     unfold asl at hz
     split at hz
     · rename_i l h e1 e2 e3
       split at hz
       · rename_i hb
         simp only[Option.some.injEq] at hz;subst hz
         obtain⟨b,c,e4,e5,e6⟩:=R_sub hr hk (l:=l.toNat) (h:=h.toNat) (by omega) (by omega) none (by simp)
         refine Bq.pure hs ?_ e6
         rw[e3] at rm
         have hmx0:mx.map a.eval=none:=by
          cases hm:mx.map a.eval with
          | none=>rfl
          | some _=>rw[hm] at rm;exact rm.elim
         simp only[execOp,ho,Instr.sliceAt,Instr.slice,e4,hmx0,Sem.run_bind,Cv h1,Result.andThen_ok,Amp rl rh e1 e2 hb.1 hb.2.1 hb.2.2 e5,Gm h2,Sem.run_pure,Option.getD_none]
       · cases hz
     · rename_i l h km m e1 e2 e3
       split at hz
       · rename_i hb
         simp only[Option.some.injEq] at hz;subst hz
         obtain⟨b,c,e4,e5,e6⟩:=R_sub hr hk (l:=l.toNat) (h:=h.toNat) (by omega) (by omega) (some m.toNat) (by simp;omega)
         refine Bq.pure hs ?_ e6
         rw[e3] at rm
         have hmx0:mx.map a.eval=some (.int km m):=by
          cases hm:mx.map a.eval with
          | none=>rw[hm] at rm;exact rm.elim
          | some u=>
            rw[hm] at rm
            have rm':R F g w (.int km m) u:=rm
            rw[(E1 rm').1]
         have hbd:=Awe (P:=P) (b:=true) (len:=els.length) (cap:=c) (km:=km) rl rh e1 e2 hb.1 hb.2.1 hb.2.2.1 hb.2.2.2.1 (by omega)
         simp only[execOp,ho,Instr.sliceAt,Instr.slice,e4,hmx0,Sem.run_bind,Cv h1,Result.andThen_ok,hbd,Gm h2,Sem.run_pure,Option.getD_some]
       · cases hz
     · cases hz
   · cases he
 · cases he
theorem Arz {ty:TypeId} {x:Operand} {lo hi:Option Operand} {y:AR} {lo' hi':Option AR} (ho:o.op= .slice ty x lo hi none) (h1:P.underlying ty=some .string) (hx:cvX x=some y)
 (hlo:cvO lo=some lo') (hhi:cvO hi=some hi') (he:Ar (.sslice y lo' hi') (aev t) H=some (v,H')):Bq P o a F g H w v H':=by
 have hr:=Cm ht hx
 have rl:=Qz ht hlo
 have rh:=Qz ht hhi
 simp only[Ar] at he
 split at he
 · rename_i s q1
   rw[q1] at hr
   obtain⟨e4,e5⟩:=Jv hr
   split at he
   · rename_i l h e1 e2
     split at he
     · rename_i hb
       simp only[Option.some.injEq,Prod.mk.injEq] at he
       obtain⟨rfl,rfl⟩:=he
       refine Bq.pure hs (u:=.string ⟨((s.take h.toNat).drop l.toNat).toArray⟩) ?_ (by simp only[R]; exact⟨trivial,by simp;omega⟩)
       have hbd:=Amp (P:=P) (b:=false) (len:=s.length) (cap:=s.length) rl rh e1 e2 hb.1 hb.2.1 hb.2.2 (Nat.le_refl _)
       simp only[execOp,ho,Instr.sliceAt,Instr.slice,e4,Sem.run_bind,Cv h1,Result.andThen_ok,Option.map_none,Option.isSome_none,Bool.false_eq_true,if_false,Sem.run_pure,W5,hbd]
       have hx:(⟨s.toArray⟩:ByteArray).extract l.toNat h.toNat=⟨((s.take h.toNat).drop l.toNat).toArray⟩:=by
        apply ByteArray.ext
        rw[ByteArray.data_extract]
        apply Array.ext'
        rw[Array.toList_extract,List.extract_eq_take_drop]
        simp only[List.drop_take]
       rw[hx]
     · cases he
   · cases he
 · cases he
end
end
end Go.Proofs.YtemdkfnenjpioaaGreatDoor
namespace Go.Proofs.YtemdkfnenjpioaaGreatDoor
open Go
section
variable {F:Addr→Prop} {g:Gh} {w:World} {P:Program}
theorem minF_R {k:IntKind} : ∀{xs:List AV} {vs:List Value} {a:Int} {v:AV},RL F g w xs vs→k.has a→L3 k a xs=some v→∃n,v= .int k n∧k.has n∧(vs.foldlM Builtin.min2 (.int k a)).run P w= .ok (.int k n) w
 | [],vs,a,v,h,ha,hm=>by
   simp only[RL] at h;subst h
   simp only[L3,Option.some.injEq] at hm;subst hm
   exact⟨a,rfl,ha,by simp⟩
 | x :: xs,vs,a,v,h,ha,hm=>by
   simp only[RL] at h
   obtain⟨u,r,rfl,h1,h2⟩:=h
   cases x<;>simp only[L3] at hm<;>try (cases hm;done)
   split at hm
   · rename_i hk;subst hk
     obtain⟨rfl,hb⟩:=E1 h1
     obtain⟨n,e1,e2,e3⟩:=minF_R h2 (by split;exact hb;exact ha) hm
     exact⟨n,e1,e2,by simp only[List.foldlM_cons,Sem.run_bind,Builtin.min2,Sem.run_pure,Result.andThen_ok]; exact e3⟩
   · cases hm
theorem maxF_R {k:IntKind} : ∀{xs:List AV} {vs:List Value} {a:Int} {v:AV},RL F g w xs vs→k.has a→Nj k a xs=some v→∃n,v= .int k n∧k.has n∧(vs.foldlM Builtin.max2 (.int k a)).run P w= .ok (.int k n) w
 | [],vs,a,v,h,ha,hm=>by
   simp only[RL] at h;subst h
   simp only[Nj,Option.some.injEq] at hm;subst hm
   exact⟨a,rfl,ha,by simp⟩
 | x :: xs,vs,a,v,h,ha,hm=>by
   simp only[RL] at h
   obtain⟨u,r,rfl,h1,h2⟩:=h
   cases x<;>simp only[Nj] at hm<;>try (cases hm;done)
   split at hm
   · rename_i hk;subst hk
     obtain⟨rfl,hb⟩:=E1 h1
     obtain⟨n,e1,e2,e3⟩:=maxF_R h2 (by split;exact hb;exact ha) hm
     exact⟨n,e1,e2,by simp only[List.foldlM_cons,Sem.run_bind,Builtin.max2,Sem.run_pure,Result.andThen_ok]; exact e3⟩
   · cases hm
theorem S6 {t:TypeId} {z:List AV} (h:E4 P t=some z): ∃i v,P.info? t=some i∧i.zero=some v∧∀F g w,RL F g w z v.cells.toList:=by
 unfold E4 at h
 cases h1:P.info? t with
 | none=>rw[h1] at h;cases h
 | some i=>
   rw[h1] at h
   cases h2:i.zero with
   | none=>simp only[h2] at h;cases h
   | some v=>simp only[h2] at h;exact⟨i,v,rfl,h2,fun _ _ _=>Qv h⟩
theorem O4 {t:TypeId} {i:TypeInfo} {v:Value} (h:P.info? t=some i) (hz:i.zero=some v):(zeroValue t).run P w= .ok v w:=by
 simp only[zeroValue,Sem.run_bind,Uv h,Result.andThen_ok,hz]; rfl
theorem Aje: ∀(us:List Value) (k off:Nat) (cs:Array Value),off+k+us.length≤cs.size→
 ((us.zipIdx k).foldl (fun (cs:Array Value) (p:Value × Nat)=>cs.setIfInBounds (off+p.2) p.1) cs).toList=Gt cs.toList (off+k) us
 | [],k,off,cs,_=>by simp[Gt]
 | u :: us,k,off,cs,h=>by
   simp only[List.length_cons] at h
   rw[List.zipIdx_cons,List.foldl_cons,Aje us (k+1) off _ (by simp;omega)]
   simp only[Gt,Array.toList_setIfInBounds]
   rw[show off+(k+1)=off+k+1 by omega,List.take_succ_eq_append_getElem (by simp;omega)]
   simp only[List.length_cons,List.append_assoc,List.getElem_set_self]
   rw[List.take_set_of_le (Nat.le_refl _),List.drop_set_of_lt (by omega)]
   simp only[List.singleton_append]
   congr 3
   congr 1
   omega
theorem Apf (cells:Array Value) (v:Value) (off:Nat) (h:off+v.cells.size≤cells.size):
 (v.cells.zipIdx.foldl (fun (cs:Array Value) (c,j)=>cs.setIfInBounds (off+j) c) cells).toList=Gt cells.toList off v.cells.toList:=by
 rw[← Array.foldl_toList,Array.toList_zipIdx]
 have:=Aje v.cells.toList 0 off cells (by simpa using h)
 simpa using this
theorem Ag5 {place:Nat→Option (Nat × Nat)} : ∀{ps:List (Nat × Nat × AV)} {vs:List (Nat × Value)} {cs:List AV} {cv:Array Value} {r:List AV},RL F g w cs cv.toList→Bi cs ps=some r→
 ps.length=vs.length→(∀ (j:Nat) p q,ps[j]? =some p→vs[j]? =some q→place q.1=some (p.1,p.2.1)∧R F g w p.2.2 q.2)→∃rv,Instr.fill place cv vs=some rv∧RL F g w r rv.toList
 | [],vs,cs,cv,r,h,hf,hl,_=>by
   simp only[Bi,Option.some.injEq] at hf;subst hf
   have:vs=[]:=by cases vs with | nil=>rfl | cons _ _=>simp at hl
   subst this
   exact⟨cv,rfl,h⟩
 | p :: ps,vs,cs,cv,r,h,hf,hl,hp=>by
   cases vs with
   | nil=>simp at hl
   | cons q vs=>
     obtain⟨off,size,x⟩:=p
     obtain⟨i,v⟩:=q
     obtain⟨h1,h2⟩:=hp 0 _ _ rfl rfl
     simp only[Bi] at hf
     split at hf
     · rename_i hc
       have hcl:=Q6 h2
       have hlen:=Dh hcl
       have hcs:=Dh h
       simp only[Array.length_toList] at hlen hcs
       have hfit:off+v.cells.size≤cv.size:=by omega
       obtain⟨rv,e1,e2⟩:=Ag5 (place:=place) (vs:=vs) (cv:=v.cells.zipIdx.foldl (fun (cs:Array Value) (c,j)=>cs.setIfInBounds (off+j) c) cv) (by rw[Apf cv v off hfit]; exact V0 h hcl off) hf (by simpa using hl) (fun j a b ha hb=>hp (j+1) a b (by simpa using ha) (by simpa using hb))
       refine⟨rv,?_,e2⟩
       simp only at h1
       simp only[Instr.fill,h1]
       have:(decide (v.cells.size≠size) || decide (off+v.cells.size > cv.size))=false:=by simp;omega
       simp only[this,Bool.false_eq_true,if_false]
       exact e1
     · cases hf
theorem Aku {fs:Array Field} : ∀{parts:List (Nat × Operand)} {ps:List (Nat × Nat × AR)},Pc P fs parts=some ps→ps.length=parts.length∧
 ∀(j:Nat) q,parts[j]? =some q→∃f i y,fs[q.1]? =some f∧P.info? f.type=some i∧cvX q.2=some y∧ps[j]? =some (f.offset,i.size,y)
 | [],ps,h=>by simp only[Pc,Option.some.injEq] at h;subst h;simp
 | (i,x) :: r,ps,h=>by
   simp only[Pc] at h
   split at h
   · rename_i f y ys h1 h2 h3
     split at h
     · rename_i inf hi
       simp only[Option.some.injEq] at h;subst h
       obtain⟨e1,e2⟩:=Aku h3
       refine⟨by simp[e1],fun j q hq=>?_⟩
       cases j with
       | zero=>simp at hq;subst hq;exact⟨f,inf,y,h1,hi,h2,rfl⟩
       | succ j=>simp at hq;simpa using e2 j q hq
     · cases h
   · cases h
theorem Arb {fs:List Field} (h: ∀f ∈ fs,(P.info? f.type).isSome=true): ∃ps:List (Nat × Nat),(fs.mapM fun f=>(do pure (f.offset,← sizeOf f.type):Sem (Nat × Nat))).run P w= .ok ps w∧
 ∀(i:Nat) f inf,fs[i]? =some f→P.info? f.type=some inf→ps[i]? =some (f.offset,inf.size):=by
 induction fs with
 | nil=>exact⟨[],by simp,by simp⟩
 | cons f fs ih=>
   obtain⟨ps,e1,e2⟩:=ih fun x hx=>h x (by simp[hx])
   have hf:=h f (by simp)
   cases hi:P.info? f.type with
   | none=>rw[hi] at hf;cases hf
   | some inf=>
     refine⟨(f.offset,inf.size) :: ps,?_,fun i f' inf' h1 h2=>?_⟩
     · simp only[List.mapM_cons,Sem.run_bind,Gm hi,Result.andThen_ok,Sem.run_pure,e1]
     · cases i with
       | zero=>simp at h1;subst h1;rw[hi] at h2;cases h2;rfl
       | succ i=>simp at h1;simpa using e2 i f' inf' h1 h2
section
variable {H H':List HB} {t:List AV} {a:Act} {o:Oper} {v:AV} (hs:St F g H w) (ht:Tm F g w t a)
include hs ht
theorem ok_min {c:Call} {ys:List AR} (ho:o.op= .call c) (hb:c.callee= .builtin .min) (hx:G9 c.args.toList=some ys) (he:Ar (.min ys) (aev t) H=some (v,H')):Bq P o a F g H w v H':=by
 have hr:=P0 ht hx
 simp only[Ar,Option.map_eq_some_iff,Prod.mk.injEq] at he
 obtain⟨z,hz,rfl,rfl⟩:=he
 generalize ys.map (aev t)=xs at hr hz
 cases xs with
 | nil=>simp[Qp] at hz
 | cons x xs=>
   simp only[RL] at hr
   obtain⟨u,r,hu,h1,h2⟩:=hr
   cases x<;>simp only[Qp] at hz<;>try (cases hz;done)
   obtain⟨rfl,hb'⟩:=E1 h1
   obtain⟨n,rfl,e2,e3⟩:=minF_R (P:=P) h2 hb' hz
   rename_i kk _
   refine Bq.pure hs (u:=.int kk n) (Me ho hb (args:=c.args.map a.eval) rfl (M9 _ _ _ ?_)) (by simp only[R]; exact⟨trivial,e2⟩)
   simp only[Builtin.min_,Array.toList_map,hu,e3]
theorem ok_max {c:Call} {ys:List AR} (ho:o.op= .call c) (hb:c.callee= .builtin .max) (hx:G9 c.args.toList=some ys) (he:Ar (.max ys) (aev t) H=some (v,H')):Bq P o a F g H w v H':=by
 have hr:=P0 ht hx
 simp only[Ar,Option.map_eq_some_iff,Prod.mk.injEq] at he
 obtain⟨z,hz,rfl,rfl⟩:=he
 generalize ys.map (aev t)=xs at hr hz
 cases xs with
 | nil=>simp[maxA] at hz
 | cons x xs=>
   simp only[RL] at hr
   obtain⟨u,r,hu,h1,h2⟩:=hr
   cases x<;>simp only[maxA] at hz<;>try (cases hz;done)
   obtain⟨rfl,hb'⟩:=E1 h1
   obtain⟨n,rfl,e2,e3⟩:=maxF_R (P:=P) h2 hb' hz
   rename_i kk _
   refine Bq.pure hs (u:=.int kk n) (Me ho hb (args:=c.args.map a.eval) rfl (M9 _ _ _ ?_)) (by simp only[R]; exact⟨trivial,e2⟩)
   simp only[Builtin.max_,Array.toList_map,hu,e3]
theorem ok_build {ty:TypeId} {parts:Array (Nat × Operand)} {fs:Array Field} {z:List AV} {ps:List (Nat × Nat × AR)} (ho:o.op= .build ty parts) (h1:P.underlying ty=some (.struct fs)) (h2:E4 P ty=some z) (h3:Ad7 P fs=true)
 (h4:Pc P fs parts.toList=some ps) (he:Ar (.build z ps) (aev t) H=some (v,H')):Bq P o a F g H w v H':=by
 obtain⟨i,zv,q1,q2,q3⟩:=S6 h2
 obtain⟨f1,f2⟩:=Aku h4
 obtain⟨pl,p1,p2⟩:=Arb (P:=P) (w:=w) (fs:=fs.toList) (fun f hf=>by
  unfold Ad7 at h3
  rw[Array.all_eq_true_iff_forall_mem] at h3
  exact h3 f (by simpa using hf))
 simp only[Ar] at he
 split at he
 · rename_i cs hcs
   simp only[Option.some.injEq,Prod.mk.injEq] at he
   obtain⟨rfl,rfl⟩:=he
   obtain⟨rv,e1,e2⟩:=Ag5 (place:=(fun (x:Nat)=>pl[x]?)) (vs:=(parts.map fun (i,x)=>(i,a.eval x)).toList) (cv:=zv.cells) (q3 F g w) hcs (by simp[f1]) (fun j p q hp hq=>by
    simp only[Array.toList_map,List.getElem?_map,Option.map_eq_some_iff] at hq hp
    obtain⟨q',hq',rfl⟩:=hq
    obtain⟨p',hp',rfl⟩:=hp
    obtain⟨f,inf,y,g1,g2,g3,g4⟩:=f2 j q' hq'
    rw[hp'] at g4;cases g4
    exact⟨p2 _ f inf (by simpa using g1) g2,Cm ht g3⟩)
   refine Bq.pure hs (u:=.agg rv) ?_ (by simp only[R]; exact⟨rv,rfl,e2⟩)
   have hpl:(fs.mapM fun f=>(do pure (f.offset,← sizeOf f.type):Sem (Nat × Nat))).run P w= .ok pl.toArray w:=by
    rw[Array.mapM_eq_mapM_toList]
    simp only[Sem.run_map,p1,Result.andThen_ok]
   simp only[execOp,ho,Instr.build,Sem.run_bind,O4 q1 q2,Result.andThen_ok,Cv h1,hpl]
   have:(fun (x:Nat)=>pl.toArray[x]?)=(fun (x:Nat)=>pl[x]?):=by funext x;simp
   rw[this,e1]
   rfl
 · cases he
omit ht in
theorem ok_alloc {ty:TypeId} {z:List AV} (ho:o.op= .alloc ty) (h2:E4 P ty=some z) (he:Ar (.alloc z) (aev t) H=some (v,H')):Bq P o a F g H w v H':=by
 obtain⟨i,zv,q1,q2,q3⟩:=S6 h2
 simp only[Ar,Option.some.injEq,Prod.mk.injEq] at he
 obtain⟨rfl,rfl⟩:=he
 obtain⟨g',e1,e2,e3⟩:=Aii hs (vs:=zv.cells) (q3 F g w) ty
 refine⟨.value (.pointer (some ⟨w.heap.size,0,none⟩)),_,F,g',?_,.inl ⟨_,rfl,e3⟩,e1,e2⟩
 simp only[execOp,ho,Instr.alloc,Sem.run_bind,O4 q1 q2,Result.andThen_ok,newVar,newRow,run_newObj,Sem.run_pure]
theorem ok_box {ty:TypeId} {x:Operand} {y:AR} (ho:o.op= .box ty x) (hx:cvX x=some y) (he:Ar (.box y) (aev t) H=some (v,H')):Bq P o a F g H w v H':=by
 simp only[Ar,Option.some.injEq,Prod.mk.injEq] at he
 obtain⟨rfl,rfl⟩:=he
 obtain⟨g',e1,e2,e3⟩:=Aii hs (vs:=(a.eval x).cells) (Q6 (Cm ht hx)) ty
 refine⟨.value (.pointer (some ⟨w.heap.size,0,none⟩)),_,F,g',?_,.inl ⟨_,rfl,e3⟩,e1,e2⟩
 simp only[execOp,ho,Instr.box,Sem.run_bind,Result.andThen_ok,newVar,newRow,run_newObj,Sem.run_pure]
theorem ok_boxT {ty:TypeId} {x:Operand} {y:AR} (ho:o.op= .box ty x) (hx:cvX x=some y) (he:Ar (.boxT ty y) (aev t) H=some (v,H')):Bq P o a F g H w v H':=by
 simp only[Ar,Option.some.injEq,Prod.mk.injEq] at he
 obtain⟨rfl,rfl⟩:=he
 obtain⟨g',e1,e2,e3⟩:=push_x hs (vs:=(a.eval x).cells) (Q6 (Cm ht hx)) ty _ (.inr rfl)
 refine⟨.value (.pointer (some ⟨w.heap.size,0,none⟩)),_,F,g',?_,.inl ⟨_,rfl,e3⟩,e1,e2⟩
 simp only[execOp,ho,Instr.box,Sem.run_bind,Result.andThen_ok,newVar,newRow,run_newObj,Sem.run_pure]
theorem ok_store {ty:TypeId} {p x:Operand} {q y:AR} {i:TypeInfo} (ho:o.op= .store ty p x) (hi:P.info? ty=some i) (hp:cvX p=some q) (hx:cvX x=some y) (he:Ar (.store i.size q y) (aev t) H=some (v,H')):Bq P o a F g H w v H':=by
 have hrp:=Cm ht hp
 have hrx:=Q6 (Cm ht hx)
 simp only[Ar] at he
 split at he
 · rename_i b off q1
   rw[q1] at hrp
   obtain⟨B,r1,r2,r3⟩:=E9 hrp
   split at he
   · rename_i cs hcs
     split at he
     · rename_i hc
       simp only[Option.some.injEq,Prod.mk.injEq] at he
       obtain⟨rfl,rfl⟩:=he
       obtain⟨B',vs,e,s1,s2,s3,s4,s5⟩:=hs.var b cs hcs
       rw[r1] at s1;cases s1
       have l1:=Dh hrx
       have l2:=Dh s4
       obtain⟨w',k1,k2,k3,k4,k5⟩:=X5 P B e (0,0) (a.eval x).cells.toList vs.toList off 0 w (by simpa using s3) (Uw hrx hc.2.2) (by omega) (by simp)
       obtain⟨m1,m2⟩:=put_var hs (e:=e) hcs r1 (V0 s4 hrx off) k2 (by rw[k3]; rfl) k4 k5
       refine⟨.skip,w',F,g,?_,.inr ⟨rfl,rfl⟩,m1,m2⟩
       have hz:(a.eval x).cells.size=i.size:=by simp only[Array.length_toList] at l1;omega
       simp only[execOp,ho,Instr.storeAt,r3,Instr.sureAddr,storeVar,Sem.run_bind,Sem.run_pure,Result.andThen_ok,Gm hi,hz,ne_eq,not_true_eq_false,if_false,k1]
     · cases he
   · rename_i e cs hcs
     split at he
     · rename_i hc
       simp only[Option.some.injEq,Prod.mk.injEq] at he
       obtain⟨rfl,rfl⟩:=he
       obtain⟨B',vs,s1,s2,s3,s4,s5⟩:=hs.tvar b e cs hcs
       rw[r1] at s1;cases s1
       have l1:=Dh hrx
       have l2:=Dh s4
       obtain⟨w',k1,k2,k3,k4,k5⟩:=X5 P B e (0,0) (a.eval x).cells.toList vs.toList off 0 w (by simpa using s3) (Uw hrx hc.2.2) (by omega) (by simp)
       obtain⟨m1,m2⟩:=put_x hs (e:=e) (.inr ⟨rfl,rfl⟩) hcs r1 (V0 s4 hrx off) k2 (by rw[k3]; rfl) k4 k5
       refine⟨.skip,w',F,g,?_,.inr ⟨rfl,rfl⟩,m1,m2⟩
       have hz:(a.eval x).cells.size=i.size:=by simp only[Array.length_toList] at l1;omega
       simp only[execOp,ho,Instr.storeAt,r3,Instr.sureAddr,storeVar,Sem.run_bind,Sem.run_pure,Result.andThen_ok,Gm hi,hz,ne_eq,not_true_eq_false,if_false,k1]
     · cases he
   · cases he
 · cases he
end
end
end Go.Proofs.YtemdkfnenjpioaaGreatDoor
namespace Go.Proofs.YtemdkfnenjpioaaGreatDoor
open Go
section
variable {F:Addr→Prop} {g:Gh} {w:World} {P:Program}
theorem Af6: ∀{xs:List AV} {B off:Nat},RM F g w B off xs→xs.all AV.isCell=true
 | [],_,_,_=>rfl
 | x :: xs,B,off,h=>by
   simp only[RM] at h
   simp only[List.all_cons,Bool.and_eq_true]
   exact⟨h.1.1,Af6 h.2⟩
theorem Ao9: ∀{els:List (List AV)} {B off k:Nat},RE F g w B off k els→∃vs:List Value,vs.length=els.length * k∧RL F g w els.flatten vs∧els.flatten.all AV.isCell=true∧(∀ r ∈ els,r.length=k)∧
 ∀(j:Nat) (v:Value),vs[j]? =some v→w.cell? ⟨B,off+j,none⟩=some v∧F ⟨B,off+j,none⟩
 | [],B,off,k,_=>⟨[],by simp,by simp[RL],rfl,by simp,by simp⟩
 | x :: xs,B,off,k,h=>by
   simp only[RE] at h
   obtain⟨h1,h2,h3⟩:=h
   obtain⟨us,a1,a2,a3⟩:=Adu h2
   obtain⟨vs,b1,b2,b3,b5,b4⟩:=Ao9 h3
   refine⟨us++vs,by simp[a1,b1,h1,Nat.add_mul]; omega,by simpa using E0 a2 b2,by simp only[List.flatten_cons,List.all_append,Bool.and_eq_true]; exact⟨Af6 h2,b3⟩,by simpa using ⟨h1,b5⟩,fun j v hj=>?_⟩
   rcases Nat.lt_or_ge j us.length with hlt | hge
   · rw[List.getElem?_append_left hlt] at hj;exact a3 j v hj
   · rw[List.getElem?_append_right hge] at hj
     have:=b4 _ v hj
     rwa [show off+k+(j - us.length)=off+j by omega] at this
theorem RM_of: ∀{xs:List AV} {B off:Nat} {vs:List Value},RL F g w xs vs→xs.all AV.isCell=true→(∀ (j:Nat) (v:Value),vs[j]? =some v→w.cell? ⟨B,off+j,none⟩=some v∧F ⟨B,off+j,none⟩)→RM F g w B off xs
 | [],_,_,_,_,_,_=>by simp[RM]
 | x :: xs,B,off,vs,h,hc,hv=>by
   simp only[RL] at h
   obtain⟨v,r,rfl,h1,h2⟩:=h
   simp only[List.all_cons,Bool.and_eq_true] at hc
   simp only[RM]
   have h0:=hv 0 v rfl
   refine⟨⟨hc.1,v,h0.2,h0.1,h1⟩,RM_of h2 hc.2 fun j u hj=>?_⟩
   have:=hv (j+1) u (by simpa using hj)
   rwa [show off+(j+1)=off+1+j by omega] at this
theorem O2: ∀{els:List (List AV)} {B off k:Nat} {vs:List Value},(∀ r ∈ els,r.length=k)→RL F g w els.flatten vs→els.flatten.all AV.isCell=true→(∀ (j:Nat) (v:Value),vs[j]? =some v→w.cell? ⟨B,off+j,none⟩=some v∧F ⟨B,off+j,none⟩)→RE F g w B off k els
 | [],_,_,_,_,_,_,_,_=>by simp[RE]
 | x :: xs,B,off,k,vs,hk,h,hc,hv=>by
   simp only[List.flatten_cons,List.all_append,Bool.and_eq_true] at hc h
   have hx:=hk x (by simp)
   have hlen:=Dh h
   have h1:=Wm h x.length
   have h2:=Oq h x.length
   rw[List.take_left] at h1
   rw[List.drop_left] at h2
   simp only[RE]
   refine⟨hx,RM_of h1 hc.1 fun j v hj=>?_,O2 (fun r hr=>hk r (by simp[hr])) h2 hc.2 fun j v hj=>?_⟩
   · rw[List.getElem?_take] at hj
     split at hj
     · exact hv j v hj
     · cases hj
   · rw[List.getElem?_drop] at hj
     have:=hv _ v hj
     rw[show off+(x.length+j)=off+k+j by omega] at this
     exact this
theorem A18 {els:List (List AV)} {k:Nat} (h: ∀r ∈ els,r.length=k):els.flatten.length=els.length * k:=by
 induction els with
 | nil=>simp
 | cons x xs ih=>
   have:=ih fun r hr=>h r (by simp[hr])
   simp only[List.flatten_cons,List.length_append,this,h x (by simp),List.length_cons,Nat.add_mul]; omega
theorem Ab3 {k:Nat} : ∀{rows:List (List AV)} {i:Nat} {c:List AV},(∀ r ∈ rows,r.length=k)→c.length=k→i < rows.length→(rows.set i c).flatten=Be rows.flatten (i * k) c
 | [],i,c,_,_,hi=>by simp at hi
 | x :: xs,i,c,hk,hc,hi=>by
   have hx:=hk x (by simp)
   cases i with
   | zero=>
     simp only[List.set_cons_zero,List.flatten_cons,Be,Nat.zero_mul,List.take_zero,List.nil_append,Nat.zero_add]
     rw[hc,← hx,List.drop_left]
   | succ i=>
     have ih:=Ab3 (k:=k) (rows:=xs) (i:=i) (c:=c) (fun r hr=>hk r (by simp[hr])) hc (by simpa using hi)
     simp only[List.set_cons_succ,List.flatten_cons,ih,Be]
     rw[show (i+1) * k=x.length+i * k by rw[Nat.add_mul,hx]; omega,List.take_length_add_append,show x.length+i * k+c.length=x.length+(i * k+c.length) by omega,List.drop_length_add_append]
     simp[List.append_assoc]
theorem Anw {k:Nat} : ∀{ps:List (Nat × AV)} {vs:List (Nat × Value)} {rows:List (List AV)} {cv:Array Value} {r:List (List AV)},(∀ x ∈ rows,x.length=k)→RL F g w rows.flatten cv.toList→rows.flatten.all AV.isCell=true→A1 k rows ps=some r→
 ps.length=vs.length→(∀ (j:Nat) p q,ps[j]? =some p→vs[j]? =some q→q.1=p.1∧R F g w p.2 q.2)→∃rv,Instr.fill (fun i=>some (i * k,k)) cv vs=some rv∧RL F g w r.flatten rv.toList∧(∀ x ∈ r,x.length=k)∧r.length=rows.length∧r.flatten.all AV.isCell=true
 | [],vs,rows,cv,r,hk,h,hc,hf,hl,_=>by
   simp only[A1,Option.some.injEq] at hf;subst hf
   have:vs=[]:=by cases vs with | nil=>rfl | cons _ _=>simp at hl
   subst this
   exact⟨cv,rfl,h,hk,rfl,hc⟩
 | p :: ps,vs,rows,cv,r,hk,h,hc,hf,hl,hp=>by
   cases vs with
   | nil=>simp at hl
   | cons q vs=>
     obtain⟨i,x⟩:=p
     obtain⟨i',v⟩:=q
     obtain⟨h1,h2⟩:=hp 0 _ _ rfl rfl
     simp only at h1 h2;subst h1
     simp only[A1] at hf
     split at hf
     · rename_i hcond
       obtain⟨c1,c2,c3⟩:=hcond
       have hcl:=Q6 h2
       have hlen:=Dh hcl
       have hcs:=Dh h
       rw[A18 hk] at hcs
       simp only[Array.length_toList] at hlen hcs
       have hmul:i' * k+k≤rows.length * k:=by
        have:(i'+1) * k≤rows.length * k:=Nat.mul_le_mul_right k c2
        rw[Nat.add_mul] at this;omega
       have hfit:i' * k+v.cells.size≤cv.size:=by omega
       obtain⟨rv,e1,e2,e3,e4,e5⟩:=Anw (k:=k) (ps:=ps) (vs:=vs) (rows:=rows.set i' x.cells) (cv:=v.cells.zipIdx.foldl (fun (cs:Array Value) (c,j)=>cs.setIfInBounds (i' * k+j) c) cv) (r:=r)
        (fun y hy=>by rcases List.mem_or_eq_of_mem_set hy with hy | rfl;exact hk y hy;exact c1) (by rw[Apf cv v _ hfit,Ab3 hk c1 c2]; exact V0 h hcl _)
        (by
         rw[Ab3 hk c1 c2]
         simp only[Be,List.all_append,Bool.and_eq_true]
         rw[List.all_eq_true] at hc
         exact⟨⟨List.all_eq_true.2 fun y hy=>hc y (List.mem_of_mem_take hy),c3⟩,List.all_eq_true.2 fun y hy=>hc y (List.mem_of_mem_drop hy)⟩) hf (by simpa using hl) (fun j a b ha hb=>hp (j+1) a b (by simpa using ha) (by simpa using hb))
       refine⟨rv,?_,e2,e3,by rw[e4,List.length_set],e5⟩
       simp only[Instr.fill]
       have:(decide (v.cells.size≠k) || decide (i' * k+v.cells.size > cv.size))=false:=by simp;omega
       simp only[this,Bool.false_eq_true,if_false]
       exact e1
     · cases hf
theorem Vu {H:List HB} (hs:St F g H w) {ob:Obj} {w':World} (hw':w'.heap=w.heap.push ob) (hio:w'.os=w.os∧w'.output=w.output):
 St (fun a=>F a∨(a.block=w.heap.size∧a.spot=none)) g H w'∧Ext F g H w (fun a=>F a∨(a.block=w.heap.size∧a.spot=none)) g H w':=by
 have hlt: ∀b,b < w.heap.size→w'.heap[b]? =w.heap[b]?:=fun b hb=>by rw[hw']; exact K0 w _ b hb
 have hK:Cr F g w (fun a=>F a∨(a.block=w.heap.size∧a.spot=none)) g w':=⟨fun _ h=>.inl h,fun a ha=>Fs (hlt _ (hs.live a ha)),Gh.le_refl g⟩
 have hz:w'.heap.size=w.heap.size+1:=by rw[hw']; simp
 refine⟨⟨fun a ha=>?_,hs.beyond,hs.inj,fun b cs hb=>?_,fun t n k ty ht=>?_,fun b off s h=>?_,fun b e cs hb=>?_,fun b ks hb=>?_⟩,⟨hK.sub,hK.keep,hK.gh,by omega,fun B hB _=>hlt B hB,fun a h=>?_,fun b B hb h=>.inl ⟨hb,h⟩,Nat.le_refl _,hio⟩⟩
 · rcases ha with ha | ⟨ha,_⟩
   · have:=hs.live a ha;omega
   · omega
 · obtain⟨B,us,e',h1,h2,h3,h4,h5⟩:=hs.var b cs hb
   exact⟨B,us,e',h1,h2,(hlt B (B9 h3)).trans h3,RL.mono hK _ _ h4,fun off h=>by
    rcases h with h | ⟨h,_⟩
    · exact h5 off h
    · have:=B9 h3;simp at h;omega⟩
 · obtain⟨B,cap,us,e',fr,h1,h2,h3,h4,h5,h6⟩:=hs.tok t n k _ ht
   exact⟨B,cap,us,e',fr,h1,h2,(hlt B (B9 h3)).trans h3,h4,h5,fun off ho h=>by
    rcases h with h | ⟨h,_⟩
    · exact h6 off ho h
    · have:=B9 h3;simp at h;omega⟩
 · rcases h with h | ⟨_,h⟩
   · exact hs.spots b off s h
   · cases h
 · obtain⟨B,us,h1,h2,h3,h4,h5⟩:=hs.tvar b e cs hb
   exact⟨B,us,h1,h2,(hlt B (B9 h3)).trans h3,RL.mono hK _ _ h4,fun off h=>by
    rcases h with h | ⟨h,_⟩
    · exact h5 off h
    · have:=B9 h3;simp at h;omega⟩
 · rcases hs.mp b _ hb with q | ⟨B,es,ck,h1,h2,h3,h4⟩
   · exact .inl q
   · exact .inr ⟨B,es,ck,h1,h2,(hlt B (B9 h3)).trans h3,h4⟩
 · rcases h with h | ⟨h,_⟩
   · exact .inl h
   · exact .inr (.inl (by omega))
theorem Ajd: ∀{parts:List (Nat × Operand)} {ps:List (Nat × AR)},Pg parts=some ps→ps.length=parts.length∧∀(j:Nat) q,parts[j]? =some q→∃y,cvX q.2=some y∧ps[j]? =some (q.1,y)
 | [],ps,h=>by simp only[Pg,Option.some.injEq] at h;subst h;simp
 | (i,x) :: r,ps,h=>by
   simp only[Pg] at h
   split at h
   · rename_i y ys h2 h3
     simp only[Option.some.injEq] at h;subst h
     obtain⟨e1,e2⟩:=Ajd h3
     refine⟨by simp[e1],fun j q hq=>?_⟩
     cases j with
     | zero=>simp at hq;subst hq;exact⟨y,h2,rfl⟩
     | succ j=>simp at hq;simpa using e2 j q hq
   · cases h
theorem Aek: ∀{vs:List Value} {xs:List AV},Kx vs=some xs→xs.all AV.isCell=true
 | [],xs,h=>by simp only[Kx,Option.some.injEq] at h;subst h;rfl
 | v :: r,xs,h=>by
   simp only[Kx] at h
   split at h
   · rename_i x ys h1 h2
     simp only[Option.some.injEq] at h;subst h
     simp only[List.all_cons,Bool.and_eq_true]
     refine⟨?_,Aek h2⟩
     unfold toAV at h1
     split at h1<;>first
      | (simp only[Option.some.injEq] at h1;subst h1;rfl)
      | (split at h1<;>first | (simp only[Option.some.injEq] at h1;subst h1;rfl) | cases h1)
      | cases h1
   · cases h
theorem Ak1 (z:Array Value) (k len:Nat) (hz:z.size=k) (hk:0 < k):((Array.range (len * k)).map (fun x=>z[x % z.size]!)).toList=(List.replicate len z.toList).flatten:=by
 apply List.ext_getElem?
 intro i
 rw[Array.toList_map,Array.toList_range,List.getElem?_map]
 have hl:(List.replicate len z.toList).flatten.length=len * k:=by simp[hz]
 rcases Nat.lt_or_ge i (len * k) with hi | hi
 · rw[List.getElem?_range hi,Option.map_some,hz]
   have hmod:i % k < z.size:=by rw[hz]; exact Nat.mod_lt _ hk
   rw[getElem!_pos z _ hmod]
   clear hl
   induction len generalizing i with
   | zero=>simp at hi
   | succ len ih=>
     rw[List.replicate_succ,List.flatten_cons]
     rcases Nat.lt_or_ge i k with h | h
     · rw[List.getElem?_append_left (by simpa[hz] using h)]
       simp[Nat.mod_eq_of_lt h,hz,h]
     · rw[List.getElem?_append_right (by simpa[hz] using h)]
       simp only[Array.length_toList,hz]
       rw[Nat.add_mul,Nat.one_mul] at hi
       have hmod':(i - k) % k < z.size:=by rw[hz]; exact Nat.mod_lt _ hk
       rw[← ih (i - k) (by omega) hmod']
       congr 1
       have:i % k=(i - k) % k:=by rw[Nat.mod_eq_sub_mod h]
       simp only[this]
 · rw[List.getElem?_eq_none (by simpa using hi),List.getElem?_eq_none (by omega)]; rfl
section
variable {H H':List HB} {t:List AV} {a:Act} {o:Oper} {v:AV} (hs:St F g H w) (ht:Tm F g w t a)
include hs ht
theorem Asx {ty e:TypeId} {len:Nat} {parts:Array (Nat × Operand)} {z:List AV} {i:TypeInfo} {ps:List (Nat × AR)} (ho:o.op= .buildSlice ty len parts) (h1:P.underlying ty=some (.slice e)) (hi:P.info? e=some i) (h2:E4 P e=some z)
 (h4:Pg parts.toList=some ps) (hsz:0 < i.size∧z.length=i.size∧len * i.size≤10000∧0 < len) (he:Ar (.buildSl i.size z len ps) (aev t) H=some (v,H')):Bq P o a F g H w v H':=by
 obtain⟨z1,z2,z3,z4⟩:=hsz
 have h2':=h2
 unfold E4 at h2'
 rw[hi] at h2'
 simp only at h2'
 cases hzv:i.zero with
 | none=>rw[hzv] at h2';cases h2'
 | some zv=>
   rw[hzv] at h2'
   simp only at h2'
   have hzR:RL F g w z zv.cells.toList:=Qv h2'
   have hzl:=Dh hzR
   simp only[Array.length_toList] at hzl
   obtain⟨f1,f2⟩:=Ajd h4
   simp only[Ar] at he
   split at he
   · rename_i rows hrows
     simp only[Option.some.injEq,Prod.mk.injEq] at he
     obtain⟨rfl,rfl⟩:=he
     have hrep: ∀n,RL F g w (List.replicate n z).flatten (List.replicate n zv.cells.toList).flatten:=by
      intro n
      induction n with
      | zero=>simp[RL]
      | succ n ih=>simp only[List.replicate_succ,List.flatten_cons]; exact E0 hzR ih
     have hrepc: ∀n,(List.replicate n z).flatten.all AV.isCell=true:=by
      intro n
      induction n with
      | zero=>simp
      | succ n ih=>simp only[List.replicate_succ,List.flatten_cons,List.all_append,Bool.and_eq_true]; exact⟨Aek h2',ih⟩
     obtain⟨rv,e1,e2,e3,e4,e5⟩:=Anw (k:=i.size) (vs:=(parts.map fun (i,x)=>(i,a.eval x)).toList) (cv:=(Array.range (len * i.size)).map (fun x=>zv.cells[x % zv.cells.size]!)) (rows:=List.replicate len z)
      (fun x hx=>by rw[List.eq_of_mem_replicate hx]; exact z2) (by rw[Ak1 zv.cells i.size len (by omega) z1]; exact hrep len) (hrepc len) hrows (by simp[f1]) (fun j p q hp hq=>by
       simp only[Array.toList_map,List.getElem?_map,Option.map_eq_some_iff] at hq hp
       obtain⟨q',hq',rfl⟩:=hq
       obtain⟨p',hp',rfl⟩:=hp
       obtain⟨y,g1,g2⟩:=f2 j q' hq'
       rw[hp'] at g2;cases g2
       exact⟨rfl,Cm ht g1⟩)
     simp only[List.length_replicate] at e4
     let w':World:={ w with heap:=w.heap.push (.cells rv e) }
     obtain⟨s1,s2⟩:=Vu hs (ob:=.cells rv e) (w':=w') rfl ⟨rfl,rfl⟩
     refine⟨.value (.slice (some ⟨w.heap.size,0,none⟩) len len),w',_,g,?_,.inl ⟨_,rfl,?_⟩,s1,s2⟩
     · have hne: ¬len * i.size > 2 ^ 24:=by omega
       have hne0: ¬len * i.size=0:=by
        have:=Nat.mul_pos z4 z1;omega
       simp only[execOp,ho,Instr.buildSlice,Sem.run_bind,Cv h1,Result.andThen_ok,Gm hi,if_neg hne,if_neg hne0,O4 hi hzv,Sem.run_pure,newRow]
       rw[e1]
       rfl
     · simp only[R,e4]
       have hlen1:len≤10000:=by
        have:len * 1≤len * i.size:=Nat.mul_le_mul_left len z1
        omega
       refine⟨by unfold A4;omega,.inr ⟨w.heap.size,0,none,len,i.size,rfl,Nat.le_refl _,⟨z1,.inr rfl⟩,?_,rfl⟩⟩
       refine O2 e3 (RL.mono s2.keeps _ _ e2) e5 fun j u hj=>⟨?_,.inr ⟨rfl,rfl⟩⟩
       have:w'.heap[w.heap.size]? =some (.cells rv e):=Kl w _
       simp only[World.cell?,this,Option.isSome_none,Bool.false_eq_true,if_false,Nat.zero_add]
       simpa using hj
   · cases he
end
end
end Go.Proofs.YtemdkfnenjpioaaGreatDoor
namespace Go.Proofs.YtemdkfnenjpioaaGreatDoor
open Go
section
variable {F:Addr→Prop} {g:Gh} {w:World} {P:Program}
structure Src (P:Program) (w:World) (size:Nat) (x:Value) (m:Nat) (news:List Value):Prop where
 len: ∀w',(Builtin.lenOf x).run P w'= .ok m w'
 read: ∀w':World,(∀ a,w'.cell? a=w.cell? a)→(Builtin.firstCells size m x).run P w'= .ok news.toArray w'
structure Qn (P:Program) (ats:Array TypeId) (e:TypeId) (i:TypeInfo):Prop where
 t0: ∃t,ats[0]? =some t∧P.underlying t=some (.slice e)
 t1: ∃u d,ats[1]? =some u∧P.underlying u=some d∧(d matches .int _)=false
 info:P.info? e=some i
theorem Az5 {ats:Array TypeId} {e ty:TypeId} {i:TypeInfo} (hA:Qn P ats e i) {B n cap m:Nat} {x:Value} {news:List Value} (hS:Src P w i.size x m news) {vs:List Value} {el:TypeId} {fr:Nat × Nat}
 (hb:w.heap[B]? =some (.cells vs.toArray el fr)) (hc:news.all Value.oneCell'=true) (hfit:n * i.size+news.length≤vs.length) (hfr:fr.2≤n * i.size) (hroom:n+m≤cap):
 ∃w',(Builtin.append_ ats ty #[.slice (some ⟨B,0,none⟩) n cap,x]).run P w= .ok (.slice (some ⟨B,0,none⟩) (n+m) cap) w'∧w'.heap.size=w.heap.size∧
  w'.heap[B]? =some (.cells (Gt vs (n * i.size) news).toArray el fr)∧(∀ b,b≠B→w'.heap[b]? =w.heap[b]?)∧w'.os=w.os∧w'.output=w.output:=by
 obtain⟨t,a0,u0⟩:=hA.t0
 obtain⟨u,d,a1,u1,hd⟩:=hA.t1
 obtain⟨w',k1,k2,k3,k4,k5⟩:=X5 P B el fr news vs (n * i.size) 0 w hb hc (by omega) (by omega)
 refine⟨w',?_,k2,k3,k4,k5⟩
 have hr:=hS.read w fun _=>rfl
 simp only[Builtin.append_,a0,a1,List.getElem?_toArray,List.getElem?_cons_zero,List.getElem?_cons_succ,Sem.run_bind,Cv u0,Cv u1,Result.andThen_ok,Gm hA.info,Sem.run_pure]
 cases d<;>first | (cases hd;done) | skip
 all_goals
  simp only[Bool.false_eq_true,if_false,hS.len w,Result.andThen_ok,if_pos hroom,Bool.not_false,if_true,Sem.run_bind,hr,Iv,Nat.zero_add,k1,Sem.run_pure]
theorem A0u {ats:Array TypeId} {e ty:TypeId} {i:TypeInfo} {z:Value} (hA:Qn P ats e i) (hz:i.zero=some z) {base:Option Addr} {n cap m:Nat} {x:Value} {news olds:List Value} (hS:Src P w i.size x m news)
 (hO:Src P w i.size (.slice base n cap) n olds) (hroom:cap < n+m) (hmax:n+m≤A4) (hbig:(n+m) * i.bytes≤140737488355328):
 ∃nc,n+m≤nc∧(Builtin.append_ ats ty #[.slice base n cap,x]).run P w= .ok (.slice (some ⟨w.heap.size,0,none⟩) (n+m) nc)
  { w with drawn:=w.drawn+1,heap:=w.heap.push (.cells (olds.toArray++news.toArray++Builtin.zeroCells z.cells (nc - (n+m))) e) }:=by
 obtain⟨t,a0,u0⟩:=hA.t0
 obtain⟨u,d,a1,u1,hd⟩:=hA.t1
 have hn: ¬(n+m≤cap):=by omega
 have hfits:=growslice_fits (bytes:=i.bytes) hroom hbig
 have hfits': ¬Builtin.nextslicecap (n+m) cap * i.bytes > 2 ^ 48:=by omega
 have hnm: ∀q:Prop,¬(((n+m:Nat):Int) > IntKind.i64.max∧q):=by
  intro q h
  have h1:=h.1
  unfold IntKind.max IntKind.signed IntKind.bits at h1;unfold A4 at hmax;simp at h1;omega
 refine⟨(Question.appendCap (n+m) cap e).cut (w.tape w.drawn (.appendCap (n+m) cap e)),by simp only[Question.cut]; omega,?_⟩
 have hr:=hS.read { w with drawn:=w.drawn+1 } fun _=>rfl
 have hro:=hO.read { w with drawn:=w.drawn+1 } fun _=>rfl
 simp only[Builtin.append_,a0,a1,List.getElem?_toArray,List.getElem?_cons_zero,List.getElem?_cons_succ,Sem.run_bind,Cv u0,Cv u1,Result.andThen_ok,Gm hA.info,Sem.run_pure]
 cases d<;>first | (cases hd;done) | skip
 all_goals
  simp only[Bool.false_eq_true,if_false,hS.len w,Result.andThen_ok,if_neg hn,if_neg (hnm _),Sem.run_bind,Uv hA.info,if_neg hfits',run_choose,Question.forced,run_askRoom,hro,Bool.not_false,if_true,hr,O4 hA.info hz,newRow,run_newObj,Sem.run_pure]
end
end Go.Proofs.YtemdkfnenjpioaaGreatDoor
