/- A part of the proof that LiftApplies answers true. -/
import Derived.Test.YtndkeknbfbdeeaaGreatDoorG01
import Derived.Laws.Append
set_option linter.all false
set_option maxHeartbeats 4000000
set_option maxRecDepth 100000
namespace Go.Proofs.YtndkeknbfbdeeaaGreatDoor
open Go
variable {y:AR}{c:Call}{els:List Ao}{x x':Operand}{e ty:TypeId}{i:TypeInfo}
section
section
variable {F:Addr->Prop} {g:Gh} {w:World} {P:Program} {H H':List HB} {t:List AV} {a:Act} {o:Oper} {v:AV} (hs:St F g H w) (ht:Tm F g w t a)
include hs ht
def Awv(ho:o.op= .move x\/o.op= .assign x)(hx:B9 x=some y)(he:B4 (.mov y) (Bh t) H=some (v,H')):Cw P o a F g H w v H':=by
 simp only[B4,Ay,Cg]at he;obtain⟨rfl,rfl⟩:=he;refine Cw.pure hs (u:=a.eval x) ?_ (E2 ht hx);rcases ho with ho|ho<;>simp only[execOp,ho]<;>rfl
def Ber{c:Operand}{d y':AR}(ho:o.op= .pick c x x')(hc:B9 c=some d)(hx:B9 x=some y)(hx':B9 x'=some y')(he:B4 (.pick d y y') (Bh t) H=some (v,H')):Cw P o a F g H w v H':=by
 simp only[B4]at he;split at he
 . rename_i b hb;simp only[Ay,Cg]at he;obtain⟨rfl,rfl⟩:=he;have h:=E2 ht hc;rw[hb]at h;have h':=Wt h;refine Cw.pure hs (u:=if b then a.eval x else a.eval x') ?_ ?_
   . simp only[execOp,ho,h',asBool,Sem.run_bind,Sem.run_pure,Result.andThen_ok]
   cases b
   . exact E2 ht hx'
   exact E2 ht hx
 cases he
def Bd9{ag:Bool}(ho:o.op= .load ty x)(h1:Zf P ty=some ag)(h2:P.info? ty=some i)(hx:B9 x=some y)(_h0:0<i.size/\(ag=true\/i.size=1))
 (he:B4 (.load ag i.size y) (Bh t) H=some (v,H')):Cw P o a F g H w v H':=by
 have hr:=E2 ht hx
 have key:∀(B off:Nat) (cs:Ao) (vs:Fm),a.eval x= .pointer (some ⟨B,off,none⟩)->RL F g w cs vs->(∀ (j:Nat) (v:Value),vs[j]? =some v->w.cell? ⟨B,off+j,none⟩=some v)->(Ni ag i.size cs).map (·,H)=some (v,H')->Cw P o a F g H w v H':=by
  intro B off cs vs hv Kz Ih h;simp only[Ef,Cg]at h;obtain⟨z,hz,rfl,rfl⟩:=h;obtain⟨q1,q2,q3⟩:=Afz hz Kz;obtain⟨l1,l2⟩:=A0e h1 h2 Ih;rw[H5 Kz]at q1
  cases ag with
  |true=>
   refine Cw.pure hs (u:=.agg (vs.take i.size).toArray) ?_ (q2 rfl)
   simp only[execOp,ho,Instr.loadAt,hv,Instr.sureAddr,Sem.run_bind,Sem.run_pure,Result.andThen_ok,l1 rfl q1]
  |false=>
   obtain⟨u,r,e1,e2⟩:=q3 rfl;refine Cw.pure hs (u:=u) ?_ e2;simp only[execOp,ho,Instr.loadAt,hv,Instr.sureAddr,Sem.run_bind,Sem.run_pure,Result.andThen_ok,l2 rfl u r e1]
 simp only[B4]at he;split at he
 . rename_i b off hb;rw[hb]at hr;obtain⟨B,q1,q2,q3⟩:=Nm hr;split at he
   . rename_i cs B7;obtain⟨B',vs,e,p1,p2,p3,p4,p5⟩:=hs.var b cs B7;rw[q1]at p1;cases p1;refine key B off (cs.drop off) (vs.toList.drop off) q3 (Zz p4 off) (fun j u hj=>?_) he;simp only[World.cell?,p3,Oz,Dp,Bq];rw[ei]at hj;simpa using hj
   . rename_i e cs B7;obtain⟨B',vs,p1,p2,p3,p4,p5⟩:=hs.tvar b e cs B7;rw[q1]at p1;cases p1;refine key B off (cs.drop off) (vs.toList.drop off) q3 (Zz p4 off) (fun j u hj=>?_) he;simp only[World.cell?,p3,Oz,Dp,Bq];rw[ei]at hj;simpa using hj
   cases he
 . rename_i cs hb;rw[hb]at hr;obtain⟨B,off,q1,q2⟩:=qt hr;obtain⟨vs,_,p2,p3⟩:=Aah q2;exact key B off cs vs q1 p2 (fun j u hj=>(p3 j u hj).1) he
 cases he
def Bdl{s:TypeId}{f:Nat}{fs:Array Field}{fd:Field}(ho:o.op= .fieldAddr s x f)(h1:P.underlying s=some (.struct fs))(h2:fs[f]? =some fd)(h3:P.info? fd.type=some i)(h4:0<i.size)
 (hx:B9 x=some y) (he:B4 (.faddr fd.offset y) (Bh t) H=some (v,H')):Cw P o a F g H w v H':=by
 have hr:=E2 ht hx
 have run:∀B off,a.eval x= .pointer (some ⟨B,off,none⟩)->(execOp a.eval o).run P w= .ok (.value (.pointer (some ⟨B,off+fd.offset,none⟩))) w:=by
  intro B off hv;simp only[execOp,ho,Instr.fieldAt,hv,Instr.sureAddr,fieldPlace,Sem.run_bind,Sem.run_pure,Result.andThen_ok,Fq h1,h2,Pg h3,Ac (Nat.ne_of_gt h4),T4]
 simp only[B4]at he;split at he
 . rename_i b off hb;rw[hb]at hr;obtain⟨B,q1,q2,q3⟩:=Nm hr;simp only[Ay,Cg]at he;obtain⟨rfl,rfl⟩:=he;refine Cw.pure hs (run B off q3) ?_;simp only[R]; exact⟨B,q1,q2,rfl⟩
 . rename_i cs hb;rw[hb]at hr;obtain⟨B,off,q1,q2⟩:=qt hr;simp only[Ay,Cg]at he;obtain⟨rfl,rfl⟩:=he;refine Cw.pure hs (run B off q1) ?_;simp only[R]; exact⟨B,_,rfl,Ah0 q2 _⟩
 cases he
def Bdn{ix:Operand}{z:AR}(ho:o.op= .indexAddr ty x ix)(h1:P.underlying ty=some (.slice e))(h2:P.info? e=some i)(_h3:0<i.size)
 (hx:B9 x=some y) (hi:B9 ix=some z) (he:B4 (.iaddr i.size y z) (Bh t) H=some (v,H')):Cw P o a F g H w v H':=by
 have hr:=E2 ht hx;have hn:=E2 ht hi;simp only[B4]at he;split at he
 . rename_i tok els k n q1 q2;rw[q1]at hr;rw[q2]at hn;obtain⟨De,_⟩:=L6 hn;split at he
   . rename_i Gf;split at he
     . rename_i row Up;split at he
       . rename_i hlen;simp only[Ay,Cg]at he;obtain⟨rfl,rfl⟩:=he;obtain⟨_,⟨rfl,_⟩|⟨B,off,sp,cap,k',r1,r2,⟨r3,rfl|rfl⟩,r4,r5⟩⟩:=L7 hr
         . simp at Up
         . simp at Up
         obtain⟨s1,s2⟩:=lw r4 _ _ Up;have Af:n.toNat<els.length:=(List.getElem?_eq_some_iff.1 Up).1;refine Cw.pure hs (u:=.pointer (some ⟨B,off+n.toNat*i.size,none⟩)) ?_ ?_
         . simp only[execOp,ho,Instr.indexAt,De,r1,asIntOf,Sem.run_bind,Sem.run_pure,Result.andThen_ok,Fq h1];have:0<=n/\n<(els.length:Int):=⟨Gf,Aa⟩;simp only[this,Mq,Bp,Sem.run_bind,Pg h2,Result.andThen_ok,Sem.run_pure,T4]
         simp only[R]; exact⟨B,_,rfl,by rw[<- hlen,s1]; exact s2⟩
       cases he
     cases he
   cases he
 . rename_i b m k n q1 q2;rw[q1]at hr;rw[q2]at hn;obtain⟨De,_⟩:=L6 hn;split at he
   . rename_i Af;simp only[Ay,Cg]at he;obtain⟨rfl,rfl⟩:=he;simp only[R]at hr;obtain⟨B,cap,r1,r2,r3,r4⟩:=hr;refine Cw.pure hs (u:=.pointer (some ⟨B,0+n.toNat*i.size,none⟩)) ?_ ?_
     . simp only[execOp,ho,Instr.indexAt,De,r3,asIntOf,Sem.run_bind,Sem.run_pure,Result.andThen_ok,Fq h1];simp only[Af,Mq,Bp,Sem.run_bind,Pg h2,Result.andThen_ok,Sem.run_pure,T4]
     simp only[R,Pt]; exact⟨B,r1,r2,rfl⟩
   cases he
 cases he
def Bik{ix:Operand}{z:AR}(ho:o.op= .index ty x ix)(h1:P.underlying ty=some .string)
 (hx:B9 x=some y) (hi:B9 ix=some z) (he:B4 (.sidx y z) (Bh t) H=some (v,H')):Cw P o a F g H w v H':=by
 have hr:=E2 ht hx;have hn:=E2 ht hi;simp only[B4]at he;split at he
 . rename_i s k n q1 q2;rw[q1]at hr;rw[q2]at hn;obtain⟨De,_⟩:=L6 hn;obtain⟨Ik,_⟩:=Wv hr;split at he
   . rename_i Gf;split at he
     . rename_i c hc;simp only[Ay,Cg]at he;obtain⟨rfl,rfl⟩:=he;refine Cw.pure hs (u:=.int .u8 c.toNat) ?_ ?_
       . simp only[execOp,ho,Instr.index,De,Ik,asIntOf,Sem.run_bind,Sem.run_pure,Result.andThen_ok,Fq h1];have Af:=(List.getElem?_eq_some_iff.1 hc).1
         have:(⟨s.toArray⟩:ByteArray)[n.toNat]? =some c:=by
          rw[getElem?_pos _ _ (by show _<ByteArray.size _;simpa[ByteArray.size]using Af)];congr 1;have:=(List.getElem?_eq_some_iff.1 hc).2;simpa[ByteArray.getElem_eq_getElem_data]using this
         simp only[Gf,Bp,this,Sem.run_pure,Result.andThen_ok]
       simp only[R]; exact⟨trivial,by
        have:=c.toNat_lt;unfold IntKind.has IntKind.min IntKind.max IntKind.signed IntKind.bits
        simp;omega⟩
     cases he
   cases he
 cases he
def Bdk{n:Nat}(ho:o.op= .extract x n)(hx:B9 x=some y)(he:B4 (.extract y n) (Bh t) H=some (v,H')):Cw P o a F g H w v H':=by
 have hr:=E2 ht hx;simp only[B4]at he;split at he
 . rename_i vs q1;rw[q1]at hr;obtain⟨arr,h1,h2⟩:=Ah2 hr;simp only[Ef,Cg]at he;obtain⟨z,hz,rfl,rfl⟩:=he;obtain⟨u,e1,e2⟩:=Vg h2 n z hz;refine Cw.pure hs (u:=u) ?_ e2;have:arr[n]? =some u:=by simpa using e1
   simp only[execOp,ho,h1,Instr.extract,this,Sem.run_bind,Sem.run_pure,Result.andThen_ok]
 cases he
def Bdm{s:TypeId}{f:Nat}{fs:Array Field}{fd:Field}{ag:Bool}(ho:o.op= .field s x f)(h1:P.underlying s=some (.struct fs))(h2:fs[f]? =some fd)(h3:Zf P fd.type=some ag)(h4:P.info? fd.type=some i)
 (hx:B9 x=some y) (_h0:0<i.size/\(ag=true\/i.size=1)) (he:B4 (.fld ag fd.offset i.size y) (Bh t) H=some (v,H')):Cw P o a F g H w v H':=by
 have hr:=E2 ht hx;simp only[B4]at he;split at he
 . rename_i cs hb;rw[hb]at hr;obtain⟨arr,hv,Kz⟩:∃a',a.eval x= .agg a'/\RL F g w cs a'.toList:=by simpa only[R]using hr
   simp only[Ef,Cg]at he;obtain⟨z,hz,rfl,rfl⟩:=he;obtain⟨q1,q2,q3⟩:=Afz hz (Zz Kz fd.offset)
   cases ag with
   |true=>
    refine Cw.pure hs (u:=.agg (arr.extract fd.offset (fd.offset+i.size))) ?_ ?_
    . simp only[execOp,ho,Instr.field,hv,asAgg,part,Sem.run_bind,Sem.run_pure,Result.andThen_ok,Fq h1,h2,w7 h3,Bp,Pg h4]
    have e:arr.extract fd.offset (fd.offset+i.size)=((arr.toList.drop fd.offset).take i.size).toArray:=by
     apply L5;simp[A3p]
    rw[e]; exact q2 rfl
   |false=>
    obtain⟨u,r,e1,e2⟩:=q3 rfl;refine Cw.pure hs (u:=u) ?_ e2
    have e:arr[fd.offset]? =some u:=by
     have h:=A4 (fun l:Fm=>l[0]?) e1;simp only[ei,qj,Tt]at h;rw[<- Mm]; exact h
    simp only[execOp,ho,Instr.field,hv,asAgg,part,Sem.run_bind,Sem.run_pure,Result.andThen_ok,Fq h1,h2,w7 h3,Dp,Bq,e]
 cases he
def Beh(ho:o.op= .nilCheck x)(hx:B9 x=some y)(he:B4 (.nilck y) (Bh t) H=some (v,H')):Cw P o a F g H w v H':=by
 have hr:=E2 ht hx;simp only[B4]at he;split at he
 . rename_i b off q1;rw[q1]at hr;obtain⟨B,_,_,q3⟩:=Nm hr;simp only[Ay,Cg]at he;obtain⟨rfl,rfl⟩:=he;refine Cw.pure hs (u:=a.eval x) ?_ hr;simp only[execOp,ho,q3]; rfl
 . rename_i cs q1;rw[q1]at hr;obtain⟨B,off,q3,_⟩:=qt hr;simp only[Ay,Cg]at he;obtain⟨rfl,rfl⟩:=he;refine Cw.pure hs (u:=a.eval x) ?_ hr;simp only[execOp,ho,q3]; rfl
 . rename_i f a1 a2 q1;rw[q1]at hr;obtain⟨b1,b2,q3,_⟩:=fb hr;simp only[Ay,Cg]at he;obtain⟨rfl,rfl⟩:=he;refine Cw.pure hs (u:=a.eval x) ?_ hr;simp only[execOp,ho,q3]; rfl
 cases he
def Bef{d:TypeDesc}(ho:o.op= .makeInterface ty x)(h1:P.underlying ty=some d)(h2:∀ms,d≠.interface ms)(hx:B9 x=some y)(he:B4 (.mkif ty y) (Bh t) H=some (v,H')):Cw P o a F g H w v H':=by
 simp only[B4,Ay,Cg]at he;obtain⟨rfl,rfl⟩:=he;refine Cw.pure hs (u:=.iface ty (a.eval x)) ?_ (by simp only[R]; exact⟨_,rfl,E2 ht hx⟩);simp only[execOp,ho,Instr.makeInterface,Sem.run_bind,Fq h1,Result.andThen_ok];cases d<;>first |(exact absurd rfl (h2 _))|rfl
def Bee{f:Fn}{first cap:Array Operand}{y z:List AR}(ho:o.op= .makeFunc f first cap)(h1:Qv first.toList=some y)(h2:Qv cap.toList=some z)(he:B4 (.mkfn f y z) (Bh t) H=some (v,H')):Cw P o a F g H w v H':=by
 simp only[B4,Ay,Cg]at he;obtain⟨rfl,rfl⟩:=he;refine Cw.pure hs (u:=.func f (first.map a.eval) (cap.map a.eval)) (by simp only[execOp,ho,Instr.makeFunc]; rfl) ?_;simp only[R]; exact⟨_,_,rfl,by simpa using fi ht h1,by simpa using fi ht h2⟩
def Bc6{s d:TypeId}{k k':IntKind}(ho:o.op= .convert s d x)(h1:P.underlying s=some (.int k'))(h2:P.underlying d=some (.int k))(hx:B9 x=some y)(he:B4 (.convInt k y) (Bh t) H=some (v,H')):Cw P o a F g H w v H':=by
 have hr:=E2 ht hx;simp only[B4]at he;split at he
 . rename_i kk n q1;rw[q1]at hr;obtain⟨e1,_⟩:=L6 hr;simp only[Ay,Cg]at he;obtain⟨rfl,rfl⟩:=he;refine Cw.pure hs (u:=.int k (k.wrap n)) ?_ (by simp only[R]; exact⟨trivial,po _ _⟩);simp only[execOp,ho,convert,e1,Sem.run_bind,Fq h1,Fq h2,Result.andThen_ok,Conv.intToInt,Sem.run_pure]
 cases he
def Bc7{s d:TypeId}(ho:o.op= .convert s d x)(h1:P.underlying s=some .string)(h2:P.underlying d=some .string)(hx:B9 x=some y)(he:B4 (.convS y) (Bh t) H=some (v,H')):Cw P o a F g H w v H':=by
 have hr:=E2 ht hx;simp only[B4]at he;split at he
 . rename_i l hl;simp only[Ay,Cg]at he;obtain⟨rfl,rfl⟩:=he;rw[hl]at hr;obtain⟨e1,_⟩:=Wv hr;refine Cw.pure hs (u:=a.eval x) ?_ hr;simp only[execOp,ho,convert,e1,Sem.run_bind,Fq h1,Fq h2,Result.andThen_ok,Sem.run_pure]
 cases he
def Bd1{r:List TypeId}(ho:o.op= .call c)(hb:c.callee= .builtin .len)(ha:c.args.toList=[x])(hty:c.argTypes.toList=ty::r)(hu:P.underlying ty=some (.slice e))
 (hx:B9 x=some y) (he:B4 (.len y) (Bh t) H=some (v,H')):Cw P o a F g H w v H':=by
 have hr:=E2 ht hx;simp only[B4]at he;split at he
 . rename_i tok els q1;rw[q1]at hr;simp only[Ay,Cg]at he;obtain⟨rfl,rfl⟩:=he;obtain⟨b,c',hv⟩:=A31 hr;refine Cw.pure hs (u:=.int .i64 els.length) (dn ho hb (args:=#[a.eval x]) (by simp[Aax ha]) (dp _ _ _ ?_)) ?_
   . simp only[Builtin.len_,Aaw hty,hv,Zw,Tt,Sem.run_bind,Fq hu,Result.andThen_ok];rfl
   simp only[R]; exact⟨trivial,cg (L7 hr).1⟩
 . rename_i b m q1;rw[q1]at hr;simp only[Ay,Cg]at he;obtain⟨rfl,rfl⟩:=he;simp only[R]at hr;obtain⟨B,cap,r1,r2,hv,r4⟩:=hr;refine Cw.pure hs (u:=.int .i64 m) (dn ho hb (args:=#[a.eval x]) (by simp[Aax ha]) (dp _ _ _ ?_)) ?_
   . simp only[Builtin.len_,Aaw hty,hv,Zw,Tt,Sem.run_bind,Fq hu,Result.andThen_ok];rfl
   simp only[R]; exact⟨trivial,cg r4⟩
 cases he
def Bil{r:List TypeId}(ho:o.op= .call c)(hb:c.callee= .builtin .len)(ha:c.args.toList=[x])(hty:c.argTypes.toList=ty::r)(hu:P.underlying ty=some .string)
 (hx:B9 x=some y) (he:B4 (.slen y) (Bh t) H=some (v,H')):Cw P o a F g H w v H':=by
 have hr:=E2 ht hx;simp only[B4]at he;split at he
 . rename_i s q1;rw[q1]at hr;simp only[Ay,Cg]at he;obtain⟨rfl,rfl⟩:=he;obtain⟨hv,hl⟩:=Wv hr;refine Cw.pure hs (u:=.int .i64 s.length) (dn ho hb (args:=#[a.eval x]) (by simp[Aax ha]) (dp _ _ _ ?_)) ?_
   . simp only[Builtin.len_,Aaw hty,hv,Zw,Tt,Sem.run_bind,Fq hu,Result.andThen_ok];rfl
   simp only[R]; exact⟨trivial,cg hl⟩
 cases he
def ok_un{op:UnOp}(ho:o.op= .unOp op ty x)(hx:B9 x=some y)(he:B4 (.un op y) (Bh t) H=some (v,H')):Cw P o a F g H w v H':=by
 have hr:=E2 ht hx;simp only[B4]at he;split at he
 . rename_i b q1;rw[q1]at hr;simp only[Ay,Cg]at he;obtain⟨rfl,rfl⟩:=he;refine Cw.pure hs (u:=.bool (!b)) ?_ (by simp[R]);simp only[execOp,ho,Wt hr,Op.unary]; rfl
 . rename_i k n q1;rw[q1]at hr;simp only[Ay,Cg]at he;obtain⟨rfl,rfl⟩:=he;refine Cw.pure hs (u:=.int k (k.wrap (0-n))) ?_ (by simp only[R]; exact⟨trivial,po _ _⟩);simp only[execOp,ho,(L6 hr).1,Op.unary,Op.intArith]; rfl
 cases he
def Bc0{op:BinOp}{yt:TypeId}{y':AR}(ho:o.op= .binOp op ty x x' yt)(hop:op= .eql\/op= .neq)(hb:P.underlying ty=some .bool)(hx:B9 x=some y)(hx':B9 x'=some y')
 (he:B4 (.binB (op= .neq) y y') (Bh t) H=some (v,H')):Cw P o a F g H w v H':=by
 have hr:=E2 ht hx;have Q9:=E2 ht hx';simp only[B4]at he;split at he
 . rename_i b b' q1 q2;rw[q1]at hr;rw[q2]at Q9;simp only[Ay,Cg]at he;obtain⟨rfl,rfl⟩:=he;refine Cw.pure hs (u:=.bool ((b==b') != decide (op= .neq))) ?_ (by simp[R]);rcases hop with rfl|rfl
   . simp only[execOp,ho,Wt hr,Wt Q9,eqGuard,binOp];simp[A0d hb]
   simp only[execOp,ho,Wt hr,Wt Q9,eqGuard,binOp];simp[A0d hb]
 cases he
def Bc1{op:BinOp}{yt:TypeId}{c:NK}(ho:o.op= .binOp op ty x x' yt)(hop:op= .eql\/op= .neq)(hn:jw P ty x'=some c)(hx:B9 x=some y)
 (he:B4 (.binNil c (op= .neq) y) (Bh t) H=some (v,H')):Cw P o a F g H w v H':=by
 have hr:=E2 ht hx;simp only[B4,Ef,Cg]at he;obtain⟨b,iu,rfl,rfl⟩:=he;have heq:=Bof hn hr iu 9999 a;have Ack:(Op.equal ty (a.eval x) (a.eval x')).run P w= .ok b w:=heq;refine Cw.pure hs (u:=.bool (b != decide (op= .neq))) ?_ (by simp[R]);obtain⟨n,rfl,hnc⟩:=Bb6 hn;simp only[execOp,ho,Sem.run_bind,Bod hop hnc,Result.andThen_ok];have De:a.eval (.const n)=n:=rfl;rw[De]at Ack ⊢;rcases hop with rfl|rfl
 . rw[A5a hnc];simp[Ack]
 rw[A5b hnc];simp[Ack]
end
end
section
section
variable {F:Addr->Prop} {g:Gh} {w:World} {P:Program}
def rt(l:Bu):(⟨l.toArray⟩:ByteArray).size=l.length:=rfl
def A5k(b:ByteArray):∀(n i:Nat) (r:Bu),b.size-i=n->ByteArray.toList.loop b i r=r.reverse++b.data.toList.drop i:=by
 have hs:b.data.toList.length=b.size:=by rw[Ou]; rfl
 intro n
 induction n with
 |zero=>
  intro i r h
  rw[ByteArray.toList.loop,Ac Aa,Cm Aa,qb]
 |succ n ih=>
  intro i r h;have hi:i<b.size:=Aa;rw[ByteArray.toList.loop,Ae hi,ih (i+1) _ Aa];have Fa:i<b.data.size:=hi
  have hg:b.get! i=b.data.toList[i]'Aa:=by
   show b.data[i]! =_;rw[R4 b.data i Fa,Array.getElem_toList]
  rw[Ct (show i<b.data.toList.length by omega),hg,List.reverse_cons,Ow];rfl
def A5j(l:Bu):(⟨l.toArray⟩:ByteArray).toList=l:=by
 have:=A5k ⟨l.toArray⟩ _ 0 [] rfl;unfold ByteArray.toList;rw[this]; rfl
def A9r{k:IntKind}{a b:Int}(ha:k.has a):k.has (a.tmod b):=by
 have h1:(a.tmod b).natAbs<=a.natAbs:=by
  rw[Int.natAbs_tmod]; exact Nat.mod_le _ _
 have h2:0<=a->0<=a.tmod b:=fun h=>Int.tmod_nonneg b h
 have h3:a<=0->a.tmod b<=0:=by
  intro h;have:=Int.tmod_nonneg b (a:=-a) Aa;rw[Int.neg_tmod]at this;omega
 unfold IntKind.has at *;have hk:k.min<=0/\0<=k.max:=by cases k<;>decide
 rcases Int.le_total 0 a with h|h
 . have:=h2 h;omega
 have:=h3 h;omega
def A9q{k:IntKind}{a:Int}(ha:k.has a)(n:Nat):k.has (a.fdiv (2^n)):=by
 have hp:(0:Int)<2^n:=Int.pow_pos Di;rw[Int.fdiv_eq_ediv_of_nonneg _ (Int.le_of_lt hp)];unfold IntKind.has at *;have hk:k.min<=0/\0<=k.max:=by cases k<;>decide
 rcases Int.le_total 0 a with h|h
 . have h1:=Int.ediv_nonneg h (Int.le_of_lt hp);have h2:=Int.ediv_le_self (2^n) h;omega
 have h1:a<=a/2^n:=by
  rw[Int.le_ediv_iff_mul_le hp];have:a*2^n<=a*1:=Int.mul_le_mul_of_nonpos_left h Aa;omega
 have h2:a/2^n<=0:=by
  have:=Int.mul_ediv_self_le (x:=a) (k:=2^n) Aa;rcases Int.lt_or_le 0 (a/2^n)with hq|hq
  . have:=Int.mul_pos hp hq;omega
  exact hq
 omega
def A0c{op:BinOp}{y:Operand}{u v:Value}(h1:(∃ k n,u= .int k n)\/∃s,u= .string s):(eqGuard op ty x y u v).run P w= .ok () w:=by
 rcases h1 with⟨k,n,rfl⟩|⟨s,rfl⟩<;>(unfold eqGuard;cases op<;>cases v<;>simp)
def Bog{op:BinOp}{k:IntKind}{a b:Int}{v:AV}(ha:k.has a)(h:ut op k a b=some v):∃u,(binOp op ty (.int k a) (.int k b)).run P w= .ok u w/\R F g w v u:=by
 cases op<;>simp only[ut,Ay]at h<;>try(cases h;done)
 case quo=>
  split at h
  . cases h
  rename_i hb;simp only[Ay]at h;subst h;exact⟨.int k (k.wrap (a.tdiv b)),by simp[binOp,Op.intDiv,hb],by simp only[R]; exact⟨trivial,po _ _⟩⟩
 case rem=>
  split at h
  . cases h
  rename_i hb;simp only[Ay]at h;subst h;exact⟨.int k (a.tmod b),by simp[binOp,Op.intDiv,hb],by simp only[R]; exact⟨trivial,A9r ha⟩⟩
 all_goals subst h
 all_goals first
  |exact⟨.int k (k.wrap _),by simp only[binOp,Nc,cu,Bq]; rfl,by simp only[R]; exact⟨trivial,po _ _⟩⟩
  |exact⟨.bool _,by simp only[binOp,Nc,cu,Bq]; rfl,by simp only[R]⟩
def Bok{op:BinOp}{a b:Bu}{v:AV}(h:xf op a b=some v):∃u,(binOp op ty (.string ⟨a.toArray⟩) (.string ⟨b.toArray⟩)).run P w= .ok u w/\R F g w v u:=by
 cases op<;>simp only[xf,Ay]at h<;>try(cases h;done)
 case add=>
  split at h
  . rename_i hl;simp only[Ay]at h;subst h;refine⟨.string ⟨(a++b).toArray⟩,?_,by simp only[R]; exact⟨trivial,by simpa using hl⟩⟩
    have h1:¬(((⟨a.toArray⟩:ByteArray).size+(⟨b.toArray⟩:ByteArray).size:Nat):Int)>IntKind.i64.max:=by
     rw[rt,rt]; unfold A1 at hl;unfold IntKind.max IntKind.signed IntKind.bits;simp;omega
    simp only[binOp,Op.stringOp,Ac h1];congr 1
  cases h
 all_goals subst h
 all_goals exact⟨.bool _,by simp only[binOp,Op.stringOp,A5j]; rfl,by simp only[R]⟩
section
variable {H H':List HB} {t:List AV} {a:Act} {o:Oper} {v:AV} (hs:St F g H w) (ht:Tm F g w t a)
include hs ht
def Awp{op:BinOp}{yt:TypeId}{y':AR}(ho:o.op= .binOp op ty x x' yt)(hx:B9 x=some y)(hx':B9 x'=some y')(he:B4 (.bin op y y') (Bh t) H=some (v,H')):Cw P o a F g H w v H':=by
 have hr:=E2 ht hx;have Q9:=E2 ht hx';simp only[B4,Ef,Cg]at he;obtain⟨z,hz,rfl,rfl⟩:=he;unfold Aas at hz;split at hz
 . rename_i k n k' n' q1 q2;rw[q1]at hr;rw[q2]at Q9;obtain⟨e1,b1⟩:=L6 hr;obtain⟨e2,b2⟩:=L6 Q9
   have key:∃u,(binOp op ty (.int k n) (.int k' n')).run P w= .ok u w/\R F g w z u:=by
    split at hz
    . split at hz
      . rename_i hn;simp only[Ay]at hz;subst hz;have:¬n'<0:=Aa;exact⟨_,by simp only[binOp,Op.shift,Ac this]; rfl,by simp only[R]; exact⟨trivial,po _ _⟩⟩
      cases hz
    . split at hz
      . rename_i hn;simp only[Ay]at hz;subst hz;have:¬n'<0:=Aa;exact⟨_,by simp only[binOp,Op.shift,Ac this]; rfl,by simp only[R]; exact⟨trivial,A9q b1 _⟩⟩
      cases hz
    split at hz
    . rename_i hk;subst hk;exact Bog b1 hz
    cases hz
   obtain⟨u,h1,h2⟩:=key;refine Cw.pure hs (u:=u) ?_ h2;simp only[execOp,ho,Sem.run_bind,e1,e2,A0c (.inl ⟨k,n,rfl⟩),Result.andThen_ok,h1,Sem.run_pure]
 . rename_i s s' q1 q2;rw[q1]at hr;rw[q2]at Q9;obtain⟨e1,b1⟩:=Wv hr;obtain⟨e2,b2⟩:=Wv Q9;obtain⟨u,h1,h2⟩:=Bok (F:=F) (g:=g) (w:=w) (P:=P) (ty:=ty) hz;refine Cw.pure hs (u:=u) ?_ h2;simp only[execOp,ho,Sem.run_bind,e1,e2,A0c (.inr ⟨_,rfl⟩),Result.andThen_ok,h1,Sem.run_pure]
 cases hz
end
end
end
section
section
variable {F:Addr->Prop} {g:Gh} {w:World} {P:Program}
def X4{k:IntKind}{n:Int}{y:Nat}{c:BoundsCode} :0<=n->n<=y->(Instr.sliceBound (.int k n) y c).run P w= .ok n.toNat w:=by
 intro h1 h2;simp only[Instr.sliceBound,asIntOf,Sem.run_bind,Sem.run_pure,Result.andThen_ok,Ae (And.intro h1 h2)]
def RO(F:Addr->Prop)(g:Gh)(w:World):Option AV->Option Value->Prop
 |none,none=>True
 |some x,some v=>R F g w x v
 |_,_=>False
def lz{t:Ao}{a:Act}(h:Tm F g w t a){o:Option Operand}{x:Option AR}(hc:Sz o=some x):RO F g w (x.map (Bh t)) (o.map a.eval):=by
 cases o with
 |none=>simp only[Sz,Ay]at hc;subst hc;trivial
 |some o=>
  simp only[Sz,Ef]at hc;obtain⟨y,hy,rfl⟩:=hc;exact E2 h hy
def vz{d:Int}{x:Option AV}{v:Option Value}(h:RO F g w x v){n:Int}(hn:Pe d x=some n):(v=none/\x=none/\n=d)\/∃k,v=some (.int k n):=by
 cases x with
 |none=>
  cases v with
  |none=>simp only[Pe,Ay]at hn;exact .inl ⟨rfl,rfl,hn.symm⟩
  |some _=>exact h.elim
 |some x=>
  cases v with
  |none=>exact h.elim
  |some v=>
   cases x<;>simp only[Pe,Ay]at hn<;>try(cases hn;done)
   subst hn;have h':R F g w (.int _ _) v:=h;exact .inr ⟨_,by rw[(L6 h').1]⟩
def A0f{b:Bool}{len cap:Nat}{lo hi:Option AV}{lv hv:Option Value}(hl:RO F g w lo lv)(hh:RO F g w hi hv){l h:Int}(e1:Pe 0 lo=some l)(e2:Pe len hi=some h)
 (b1:0<=l) (b2:l<=h) (b3:h<=len) (b4:len<=cap):(Instr.sliceBounds b len cap lv hv none).run P w= .ok (l.toNat,h.toNat,cap) w:=by
 rcases vz hl e1 with⟨rfl,_,rfl⟩|⟨k,rfl⟩<;>rcases vz hh e2 with⟨rfl,_,rfl⟩|⟨k',rfl⟩<;>
  simp only[Instr.sliceBounds,Sem.run_bind,Sem.run_pure,Result.andThen_ok]
 . simp
 . rw[X4 Aa Aa]; simp
 . rw[X4 Aa Aa]; simp
 rw[X4 Aa Aa];simp only[Result.andThen_ok];rw[X4 Aa Aa]; simp
def Boj{b:Bool}{len cap:Nat}{lo hi:Option AV}{lv hv:Option Value}(hl:RO F g w lo lv)(hh:RO F g w hi hv){l h m:Int}{km:IntKind}(e1:Pe 0 lo=some l)(e2:Pe len hi=some h)(e3:hi.isSome=true)
 (b1:0<=l) (b2:l<=h) (b3:h<=m) (b4:m<=cap):(Instr.sliceBounds b len cap lv hv (some (.int km m))).run P w= .ok (l.toNat,h.toNat,m.toNat) w:=by
 rcases vz hh e2 with⟨_,rfl,_⟩|⟨k',rfl⟩
 . simp at e3
 rcases vz hl e1 with⟨rfl,_,rfl⟩|⟨k,rfl⟩<;>simp only[Instr.sliceBounds,Sem.run_bind]
 . rw[X4 Aa Aa];simp only[Result.andThen_ok];rw[X4 Aa Aa]; simp
 rw[X4 Aa Aa];simp only[Result.andThen_ok];rw[X4 Aa Aa];simp only[Result.andThen_ok];rw[X4 Aa Aa]; simp
def Acj{B off k k':Nat}(h:RE F g w B off k els)(hk:D3 k' els=true):els=[]\/k=k':=by
 cases els with
 |nil=>exact .inl rfl
 |cons r rs=>
  simp only[RE]at h;simp only[D3,T7]at hk;exact .inr (h.1.symm.trans hk)
def Ah1{tok:Dh}{v:Value}(hr:R F g w (.sl tok els) v){size:Nat}(hk:D3 size els=true){l h:Nat}(hl:l<=h)(hh:h<=els.length)(mo:Option Nat)(hm:∀m,mo=some m->h<=m/\m<=els.length):
 ∃b c,v= .slice b els.length c/\els.length<=c/\
  R F g w (.sl (U8 tok els.length l h mo) ((els.take h).drop l)) (.slice (if mo.getD c=l then b else b.map (·.add (l*size))) (h-l) (mo.getD c-l)):=by
 obtain⟨r0,⟨rfl,rfl,r1,r2⟩|⟨B,off,sp,cap,k,rfl,c1,c2,c3,c4⟩⟩:=L7 hr
 . simp only[Ox]at hh hm;have hl0:l=0:=Aa;have hh0:h=0:=Aa;subst hl0;subst hh0;refine⟨none,0,Ab,Ab,?_⟩
   have hmo:mo.getD 0=0:=by
    cases mo with
    |none=>rfl
    |some m=>have:=hm m rfl;simp;omega
   simp only[R,List.take_nil,List.drop_nil,Ox,hmo,Ahj];refine⟨Nl _,.inl ⟨trivial,Ab,fun t=>?_,?_⟩⟩
   . cases mo with
     |none=>simp only[U8,Mq,Bp]; exact r1 t
     |some m=>simp only[U8]; split<;>simp
   cases mo with
   |none=>simp only[U8,Mq,Bp]; exact r2
   |some m=>simp only[U8]; split<;>simp
 refine⟨some ⟨B,off,sp⟩,cap,rfl,c1,?_⟩;have hlen:((els.take h).drop l).length=h-l:=by simp;omega
 simp only[R,hlen];refine⟨Aa,.inr ?_⟩
 have hmc:h<=mo.getD cap/\mo.getD cap<=cap:=by
  cases mo with
  |none=>simp;omega
  |some m=>have:=hm m rfl;simp;omega
 have hRT:∀(a':Addr),(l=0->a'=⟨B,off,sp⟩)->RT g (h-l) a' (mo.getD cap-l) (U8 tok els.length l h mo):=by
  intro a' Y0
  cases mo with
  |some m=>
   simp only[U8];split
   . rename_i e;subst e;rfl
   trivial
  |none=>
   simp only[U8];split
   . rename_i e;obtain⟨rfl,rfl⟩:=e;rw[Y0 rfl];simpa using c4
   split
   . rename_i e;obtain⟨rfl,rfl⟩:=e;have:cap=els.length:=c4;simp[RT,this]
   trivial
 by_cases S8:mo.getD cap=l
 . have:h=l:=by omega
   subst this;refine⟨B,off,sp,_,k,by rw[Ae S8],Aa,⟨c2.1,.inl (Cm (by rw[eo]; exact Nat.min_le_left _ _))⟩,?_,hRT _ fun _=>rfl⟩;rw[Cm (by rw[eo]; exact Nat.min_le_left _ _)]; simp[RE]
 rcases c2 with⟨c2,rfl|rfl⟩
 . have hl0:l=0:=by simp at hh;omega
   subst hl0;refine⟨B,off,sp,_,k,by rw[Ac S8,Tx]; simp[Addr.add],Aa,⟨c2,.inl Ab⟩,by simp[RE],hRT _ fun _=>rfl⟩
 refine⟨B,off+l*size,none,_,k,by rw[Ac S8,Tx,T4],Aa,⟨c2,.inr rfl⟩,?_,hRT _ fun e=>by subst e;simp⟩;rcases Acj c3 hk with rfl|rfl
 . simp[RE]
 exact Ahp (Ahv c3 h) l
section
variable {H H':List HB} {t:List AV} {a:Act} {o:Oper} {v:AV} (hs:St F g H w) (ht:Tm F g w t a)
include hs ht
def Bim{lo hi mx:Option Operand}{lo' Fa mx':Option AR}(ho:o.op= .slice ty x lo hi mx)(h1:P.underlying ty=some (.slice e))(h2:P.info? e=some i)(hx:B9 x=some y)
 (hlo:Sz lo=some lo') (hhi:Sz hi=some Fa) (hmx:Sz mx=some mx') (he:B4 (.slice i.size y lo' Fa mx') (Bh t) H=some (v,H')):Cw P o a F g H w v H':=by
 have hr:=E2 ht hx;have rl:=lz ht hlo;have rh:=lz ht hhi;have rm:=lz ht hmx;simp only[B4]at he;split at he
 . rename_i tok els q1;rw[q1]at hr;split at he
   . rename_i hk;simp only[Ef,Cg]at he;obtain⟨z,hz,rfl,rfl⟩:=he;unfold asl at hz;split at hz
     . rename_i l h e1 e2 e3;split at hz
       . rename_i hb;simp only[Ay]at hz;subst hz;obtain⟨b,c,e4,e5,e6⟩:=Ah1 hr hk (l:=l.toNat) (h:=h.toNat) Aa Aa none Ab;refine Cw.pure hs ?_ e6;rw[e3]at rm
         have Acn:mx.map a.eval=none:=by
          cases hm:mx.map a.eval with
          |none=>rfl
          |some _=>rw[hm]at rm;exact rm.elim
         simp only[execOp,ho,Instr.sliceAt,Instr.slice,e4,Acn,Sem.run_bind,Fq h1,Result.andThen_ok,A0f rl rh e1 e2 hb.1 hb.2.1 hb.2.2 e5,Pg h2,Sem.run_pure,Ahm]
       cases hz
     . rename_i l h km m e1 e2 e3;split at hz
       . rename_i hb;simp only[Ay]at hz;subst hz;obtain⟨b,c,e4,e5,e6⟩:=Ah1 hr hk (l:=l.toNat) (h:=h.toNat) Aa Aa (some m.toNat) (by simp;omega);refine Cw.pure hs ?_ e6;rw[e3]at rm
         have Acn:mx.map a.eval=some (.int km m):=by
          cases hm:mx.map a.eval with
          |none=>rw[hm]at rm;exact rm.elim
          |some u=>
           rw[hm]at rm;have rm':R F g w (.int km m) u:=rm;rw[(L6 rm').1]
         have P4:=Boj (P:=P) (b:=true) (len:=els.length) (cap:=c) (km:=km) rl rh e1 e2 hb.1 hb.2.1 hb.2.2.1 hb.2.2.2.1 Aa;simp only[execOp,ho,Instr.sliceAt,Instr.slice,e4,Acn,Sem.run_bind,Fq h1,Result.andThen_ok,P4,Pg h2,Sem.run_pure,lu]
       cases hz
     cases hz
   cases he
 cases he
def Bi4{lo hi:Option Operand}{lo' Fa:Option AR}(ho:o.op= .slice ty x lo hi none)(h1:P.underlying ty=some .string)(hx:B9 x=some y)
 (hlo:Sz lo=some lo') (hhi:Sz hi=some Fa) (he:B4 (.sslice y lo' Fa) (Bh t) H=some (v,H')):Cw P o a F g H w v H':=by
 have hr:=E2 ht hx;have rl:=lz ht hlo;have rh:=lz ht hhi;simp only[B4]at he;split at he
 . rename_i s q1;rw[q1]at hr;obtain⟨e4,e5⟩:=Wv hr;split at he
   . rename_i l h e1 e2;split at he
     . rename_i hb;simp only[Ay,Cg]at he;obtain⟨rfl,rfl⟩:=he;refine Cw.pure hs (u:=.string ⟨((s.take h.toNat).drop l.toNat).toArray⟩) ?_ (by simp only[R]; exact⟨trivial,by simp;omega⟩);have P4:=A0f (P:=P) (b:=false) (len:=s.length) (cap:=s.length) rl rh e1 e2 hb.1 hb.2.1 hb.2.2 (Bm _);simp only[execOp,ho,Instr.sliceAt,Instr.slice,e4,Sem.run_bind,Fq h1,Result.andThen_ok,Option.map_none,Oz,Dp,Bq,Sem.run_pure,rt,P4]
       have hx:(⟨s.toArray⟩:ByteArray).extract l.toNat h.toNat=⟨((s.take h.toNat).drop l.toNat).toArray⟩:=by
        apply ByteArray.ext;rw[A27];apply L5;rw[Array.toList_extract,A3p];simp only[List.drop_take]
       rw[hx]
     cases he
   cases he
 cases he
end
end
end
section
section
variable {F:Addr->Prop} {g:Gh} {w:World} {P:Program}
def Avx{k:IntKind} :∀{xs:List AV} {vs:List Value} {a:Int} {v:AV},RL F g w xs vs->k.has a->Uz k a xs=some v->∃n,v= .int k n/\k.has n/\(vs.foldlM Builtin.min2 (.int k a)).run P w= .ok (.int k n) w
 | [],vs,a,v,h,ha,hm=>by
   simp only[RL]at h;subst h;simp only[Uz,Ay]at hm;subst hm
   exact⟨a,rfl,ha,Ab⟩
 |x::xs,vs,a,v,h,ha,hm=>by
  simp only[RL]at h;obtain⟨u,r,rfl,h1,h2⟩:=h;cases x<;>simp only[Uz]at hm<;>try(cases hm;done)
  split at hm
  . rename_i hk;subst hk;obtain⟨rfl,hb⟩:=L6 h1;obtain⟨n,e1,e2,e3⟩:=Avx h2 (by split;exact hb;exact ha) hm;exact⟨n,e1,e2,by simp only[List.foldlM_cons,Sem.run_bind,Builtin.min2,Sem.run_pure,Result.andThen_ok]; exact e3⟩
  cases hm
def Avv{k:IntKind} :∀{xs:List AV} {vs:List Value} {a:Int} {v:AV},RL F g w xs vs->k.has a->Xw k a xs=some v->∃n,v= .int k n/\k.has n/\(vs.foldlM Builtin.max2 (.int k a)).run P w= .ok (.int k n) w
 | [],vs,a,v,h,ha,hm=>by
   simp only[RL]at h;subst h;simp only[Xw,Ay]at hm;subst hm
   exact⟨a,rfl,ha,Ab⟩
 |x::xs,vs,a,v,h,ha,hm=>by
  simp only[RL]at h;obtain⟨u,r,rfl,h1,h2⟩:=h;cases x<;>simp only[Xw]at hm<;>try(cases hm;done)
  split at hm
  . rename_i hk;subst hk;obtain⟨rfl,hb⟩:=L6 h1;obtain⟨n,e1,e2,e3⟩:=Avv h2 (by split;exact hb;exact ha) hm;exact⟨n,e1,e2,by simp only[List.foldlM_cons,Sem.run_bind,Builtin.max2,Sem.run_pure,Result.andThen_ok]; exact e3⟩
  cases hm
def pq{t:TypeId}{z:Ao}(h:N4 P t=some z):∃i v,P.info? t=some i/\i.zero=some v/\∀F g w,RL F g w z v.cells.toList:=by
 unfold N4 at h
 cases h1:P.info? t with
 |none=>rw[h1]at h;cases h
 |some i=>
  rw[h1]at h
  cases h2:i.zero with
  |none=>simp only[h2]at h;cases h
  |some v=>simp only[h2]at h;exact⟨i,v,rfl,h2,fun _ _ _=>o7 h⟩
def kr{t:TypeId}{v:Value}(h:P.info? t=some i)(hz:i.zero=some v):(zeroValue t).run P w= .ok v w:=by
 simp only[zeroValue,Sem.run_bind,xa h,Result.andThen_ok,hz]; rfl
def Atj:∀(us:Fm) (k off:Nat) (cs:Array Value),off+k+us.length<=cs.size->
 ((us.zipIdx k).foldl (fun(cs:Array Value) (p:Value×Nat)=>cs.setIfInBounds (off+p.2) p.1) cs).toList=Rl cs.toList (off+k) us
 | [],k,off,cs,_=>by simp[Rl]
 |u::us,k,off,cs,h=>by
  simp only[Gq]at h;rw[List.zipIdx_cons,yf,Atj us (k+1) off _ (by simp;omega)];simp only[Rl,Ags];rw[show off+(k+1)=off+k+1 by omega,A3v (by simp;omega)];simp only[Gq,Ow,A3s];rw[List.take_set_of_le (Bm _),List.drop_set_of_lt Aa];simp only[A3u];congr 3;congr 1;omega
def Atb(cells:Array Value)(v:Value)(off:Nat)(h:off+v.cells.size<=cells.size):
 (v.cells.zipIdx.foldl (fun(cs:Array Value) (c,j)=>cs.setIfInBounds (off+j) c) cells).toList=Rl cells.toList off v.cells.toList:=by
 rw[<- Array.foldl_toList,Array.toList_zipIdx];have:=Atj v.cells.toList 0 off cells (by simpa using h);simpa using this
def As9{place:Nat->Option (Nat×Nat)} :∀{ps:List (Nat×Nat×AV)} {vs:List (Nat×Value)} {cs:Ao} {cv:Array Value} {r:Ao},RL F g w cs cv.toList->aa cs ps=some r->
 ps.length=vs.length->(∀ (j:Nat) p q,ps[j]? =some p->vs[j]? =some q->place q.1=some (p.1,p.2.1)/\R F g w p.2.2 q.2)->∃rv,Instr.fill place cv vs=some rv/\RL F g w r rv.toList
 | [],vs,cs,cv,r,h,hf,hl,_=>by
   simp only[aa,Ay]at hf;subst hf;have:vs=[]:=by cases vs with |nil=>rfl|cons _ _=>simp at hl
   subst this
   exact⟨cv,rfl,h⟩
 |p::ps,vs,cs,cv,r,h,hf,hl,hp=>by
  cases vs with
  |nil=>simp at hl
  |cons q vs=>
   obtain⟨off,size,x⟩:=p;obtain⟨i,v⟩:=q;obtain⟨h1,h2⟩:=hp 0 _ _ rfl rfl;simp only[aa]at hf;split at hf
   . rename_i hc;have En:=ma h2;have hlen:=H5 En;have B7:=H5 h;simp only[Ou]at hlen B7;have Am:off+v.cells.size<=cv.size:=Aa;obtain⟨rv,e1,e2⟩:=As9 (place:=place) (vs:=vs) (cv:=v.cells.zipIdx.foldl (fun(cs:Array Value) (c,j)=>cs.setIfInBounds (off+j) c) cv) (by rw[Atb cv v off Am]; exact qp h En off) hf (by simpa using hl) (fun j a b ha hb=>hp (j+1) a b (by simpa using ha) (by simpa using hb));refine⟨rv,?_,e2⟩;simp only at h1;simp only[Instr.fill,h1];have:(decide (v.cells.size≠size)||decide (off+v.cells.size>cv.size))=false:=by simp;omega
     simp only[this,Dp,Bq];exact e1
   cases hf
def As8{fs:Array Field} :∀{parts:List (Nat×Operand)} {ps:List (Nat×Nat×AR)},gv P fs parts=some ps->ps.length=parts.length/\
 ∀(j:Nat) q,parts[j]? =some q->∃f i y,fs[q.1]? =some f/\P.info? f.type=some i/\B9 q.2=some y/\ps[j]? =some (f.offset,i.size,y)
 | [],ps,h=>by simp only[gv,Ay]at h;subst h;simp
 |(i,x)::r,ps,h=>by
  simp only[gv]at h;split at h
  . rename_i f y ys h1 h2 h3;split at h
    . rename_i inf hi;simp only[Ay]at h;subst h;obtain⟨e1,e2⟩:=As8 h3;refine⟨by simp[e1],fun j q hq=>?_⟩
      cases j with
      |zero=>simp at hq;subst hq;exact⟨f,inf,y,h1,hi,h2,rfl⟩
      |succ j=>simp at hq;simpa using e2 j q hq
    cases h
  cases h
def Boi{fs:List Field}(h:∀f∈fs,(P.info? f.type).isSome=true):∃ps:List (Nat×Nat),(fs.mapM fun f=>(do pure (f.offset,<-sizeOf f.type):Sem (Nat×Nat))).run P w= .ok ps w/\
 ∀(i:Nat) f inf,fs[i]? =some f->P.info? f.type=some inf->ps[i]? =some (f.offset,inf.size):=by
 induction fs with
 |nil=>exact⟨[],Ab,Ab⟩
 |cons f fs ih=>
  obtain⟨ps,e1,e2⟩:=ih fun x hx=>h x (by simp[hx]);have hf:=h f Ab
  cases hi:P.info? f.type with
  |none=>rw[hi]at hf;cases hf
  |some inf=>
   refine⟨(f.offset,inf.size)::ps,?_,fun i f' inf' h1 h2=>?_⟩
   . simp only[yk,Sem.run_bind,Pg hi,Result.andThen_ok,Sem.run_pure,e1]
   cases i with
   |zero=>simp at h1;subst h1;rw[hi]at h2;cases h2;rfl
   |succ i=>simp at h1;simpa using e2 i f' inf' h1 h2
section
variable {H H':List HB} {t:List AV} {a:Act} {o:Oper} {v:AV} (hs:St F g H w) (ht:Tm F g w t a)
include hs ht
def Bed{ys:List AR}(ho:o.op= .call c)(hb:c.callee= .builtin .min)(hx:Qv c.args.toList=some ys)(he:B4 (.min ys) (Bh t) H=some (v,H')):Cw P o a F g H w v H':=by
 have hr:=fi ht hx;simp only[B4,Ef,Cg]at he;obtain⟨z,hz,rfl,rfl⟩:=he;generalize ys.map (Bh t)=xs at hr hz
 cases xs with
 |nil=>simp[Xx]at hz
 |cons x xs=>
  simp only[RL]at hr;obtain⟨u,r,hu,h1,h2⟩:=hr;cases x<;>simp only[Xx]at hz<;>try(cases hz;done)
  obtain⟨rfl,hb'⟩:=L6 h1;obtain⟨n,rfl,e2,e3⟩:=Avx (P:=P) h2 hb' hz;rename_i kk _;refine Cw.pure hs (u:=.int kk n) (dn ho hb (args:=c.args.map a.eval) rfl (dp _ _ _ ?_)) (by simp only[R]; exact⟨trivial,e2⟩);simp only[Builtin.min_,ld,hu,e3]
def Bec{ys:List AR}(ho:o.op= .call c)(hb:c.callee= .builtin .max)(hx:Qv c.args.toList=some ys)(he:B4 (.max ys) (Bh t) H=some (v,H')):Cw P o a F g H w v H':=by
 have hr:=fi ht hx;simp only[B4,Ef,Cg]at he;obtain⟨z,hz,rfl,rfl⟩:=he;generalize ys.map (Bh t)=xs at hr hz
 cases xs with
 |nil=>simp[cn]at hz
 |cons x xs=>
  simp only[RL]at hr;obtain⟨u,r,hu,h1,h2⟩:=hr;cases x<;>simp only[cn]at hz<;>try(cases hz;done)
  obtain⟨rfl,hb'⟩:=L6 h1;obtain⟨n,rfl,e2,e3⟩:=Avv (P:=P) h2 hb' hz;rename_i kk _;refine Cw.pure hs (u:=.int kk n) (dn ho hb (args:=c.args.map a.eval) rfl (dp _ _ _ ?_)) (by simp only[R]; exact⟨trivial,e2⟩);simp only[Builtin.max_,ld,hu,e3]
def Bc4{parts:Array (Nat×Operand)}{fs:Array Field}{z:Ao}{ps:List (Nat×Nat×AR)}(ho:o.op= .build ty parts)(h1:P.underlying ty=some (.struct fs))(h2:N4 P ty=some z)(h3:Ac0 P fs=true)
 (h4:gv P fs parts.toList=some ps) (he:B4 (.build z ps) (Bh t) H=some (v,H')):Cw P o a F g H w v H':=by
 obtain⟨i,zv,q1,q2,q3⟩:=pq h2;obtain⟨f1,f2⟩:=As8 h4
 obtain⟨pl,p1,p2⟩:=Boi (P:=P) (w:=w) (fs:=fs.toList) (fun f hf=>by
  unfold Ac0 at h3;rw[Array.all_eq_true_iff_forall_mem]at h3
  exact h3 f (by simpa using hf))
 simp only[B4]at he;split at he
 . rename_i cs B7;simp only[Ay,Cg]at he;obtain⟨rfl,rfl⟩:=he
   obtain⟨rv,e1,e2⟩:=As9 (place:=(fun(x:Nat)=>pl[x]?)) (vs:=(parts.map fun(i,x)=>(i,a.eval x)).toList) (cv:=zv.cells) (q3 F g w) B7 (by simp[f1]) (fun j p q hp hq=>by
    simp only[ld,Vf,Ef]at hq hp;obtain⟨q',Ta,rfl⟩:=hq;obtain⟨p',hp',rfl⟩:=hp;obtain⟨f,inf,y,g1,g2,g3,g4⟩:=f2 j q' Ta;rw[hp']at g4;cases g4
    exact⟨p2 _ f inf (by simpa using g1) g2,E2 ht g3⟩)
   refine Cw.pure hs (u:=.agg rv) ?_ (by simp only[R]; exact⟨rv,rfl,e2⟩)
   have bj:(fs.mapM fun f=>(do pure (f.offset,<-sizeOf f.type):Sem (Nat×Nat))).run P w= .ok pl.toArray w:=by
    rw[A22];simp only[Sem.run_map,p1,Result.andThen_ok]
   simp only[execOp,ho,Instr.build,Sem.run_bind,kr q1 q2,Result.andThen_ok,Fq h1,bj];have:(fun(x:Nat)=>pl.toArray[x]?)=(fun(x:Nat)=>pl[x]?):=by funext x;simp
   rw[this,e1];rfl
 cases he
omit ht in
def Bcx{z:Ao}(ho:o.op= .alloc ty)(h2:N4 P ty=some z)(he:B4 (.alloc z) (Bh t) H=some (v,H')):Cw P o a F g H w v H':=by
 obtain⟨i,zv,q1,q2,q3⟩:=pq h2;simp only[B4,Ay,Cg]at he;obtain⟨rfl,rfl⟩:=he;obtain⟨g',e1,e2,e3⟩:=Ayy hs (vs:=zv.cells) (q3 F g w) ty;refine⟨.value (.pointer (some ⟨w.heap.size,0,none⟩)),_,F,g',?_,.inl ⟨_,rfl,e3⟩,e1,e2⟩;simp only[execOp,ho,Instr.alloc,Sem.run_bind,kr q1 q2,Result.andThen_ok,newVar,newRow,run_newObj,Sem.run_pure]
def Bc2(ho:o.op= .box ty x)(hx:B9 x=some y)(he:B4 (.box y) (Bh t) H=some (v,H')):Cw P o a F g H w v H':=by
 simp only[B4,Ay,Cg]at he;obtain⟨rfl,rfl⟩:=he;obtain⟨g',e1,e2,e3⟩:=Ayy hs (vs:=(a.eval x).cells) (ma (E2 ht hx)) ty;refine⟨.value (.pointer (some ⟨w.heap.size,0,none⟩)),_,F,g',?_,.inl ⟨_,rfl,e3⟩,e1,e2⟩;simp only[execOp,ho,Instr.box,Sem.run_bind,Result.andThen_ok,newVar,newRow,run_newObj,Sem.run_pure]
def Bc3(ho:o.op= .box ty x)(hx:B9 x=some y)(he:B4 (.boxT ty y) (Bh t) H=some (v,H')):Cw P o a F g H w v H':=by
 simp only[B4,Ay,Cg]at he;obtain⟨rfl,rfl⟩:=he;obtain⟨g',e1,e2,e3⟩:=Ayz hs (vs:=(a.eval x).cells) (ma (E2 ht hx)) ty _ (.inr rfl);refine⟨.value (.pointer (some ⟨w.heap.size,0,none⟩)),_,F,g',?_,.inl ⟨_,rfl,e3⟩,e1,e2⟩;simp only[execOp,ho,Instr.box,Sem.run_bind,Result.andThen_ok,newVar,newRow,run_newObj,Sem.run_pure]
def Bi5{p:Operand}{q:AR}(ho:o.op= .store ty p x)(hi:P.info? ty=some i)(hp:B9 p=some q)(hx:B9 x=some y)(he:B4 (.store i.size q y) (Bh t) H=some (v,H')):Cw P o a F g H w v H':=by
 have hrp:=E2 ht hp;have jh:=ma (E2 ht hx);simp only[B4]at he;split at he
 . rename_i b off q1;rw[q1]at hrp;obtain⟨B,r1,r2,r3⟩:=Nm hrp;split at he
   . rename_i cs B7;split at he
     . rename_i hc;simp only[Ay,Cg]at he;obtain⟨rfl,rfl⟩:=he;obtain⟨B',vs,e,s1,s2,s3,s4,s5⟩:=hs.var b cs B7;rw[r1]at s1;cases s1;have l1:=H5 jh;have l2:=H5 s4;obtain⟨w',k1,k2,k3,k4,k5⟩:=w9 P B e (0,0) (a.eval x).cells.toList vs.toList off 0 w (by simpa using s3) (vw jh hc.2.2) Aa Ab;obtain⟨m1,m2⟩:=Bnt hs (e:=e) B7 r1 (qp s4 jh off) k2 (by rw[k3]; rfl) k4 k5;refine⟨.skip,w',F,g,?_,.inr ⟨rfl,rfl⟩,m1,m2⟩;have hz:(a.eval x).cells.size=i.size:=by simp only[Ou]at l1;omega
       simp only[execOp,ho,Instr.storeAt,r3,Instr.sureAddr,storeVar,Sem.run_bind,Sem.run_pure,Result.andThen_ok,Pg hi,hz,Nc,cu,Bq,k1]
     cases he
   . rename_i e cs B7;split at he
     . rename_i hc;simp only[Ay,Cg]at he;obtain⟨rfl,rfl⟩:=he;obtain⟨B',vs,s1,s2,s3,s4,s5⟩:=hs.tvar b e cs B7;rw[r1]at s1;cases s1;have l1:=H5 jh;have l2:=H5 s4;obtain⟨w',k1,k2,k3,k4,k5⟩:=w9 P B e (0,0) (a.eval x).cells.toList vs.toList off 0 w (by simpa using s3) (vw jh hc.2.2) Aa Ab;obtain⟨m1,m2⟩:=Ae0 hs (e:=e) (.inr ⟨rfl,rfl⟩) B7 r1 (qp s4 jh off) k2 (by rw[k3]; rfl) k4 k5;refine⟨.skip,w',F,g,?_,.inr ⟨rfl,rfl⟩,m1,m2⟩;have hz:(a.eval x).cells.size=i.size:=by simp only[Ou]at l1;omega
       simp only[execOp,ho,Instr.storeAt,r3,Instr.sureAddr,storeVar,Sem.run_bind,Sem.run_pure,Result.andThen_ok,Pg hi,hz,Nc,cu,Bq,k1]
     cases he
   cases he
 cases he
end
end
end
section
section
variable {F:Addr->Prop} {g:Gh} {w:World} {P:Program}
def Ahz:∀{xs:List AV} {B off:Nat},RM F g w B off xs->xs.all AV.isCell=true
 | [],_,_,_=>rfl
 |x::xs,B,off,h=>by
  simp only[RM]at h;simp only[Er,Bb];exact⟨h.1.1,Ahz h.2⟩
def Ahs:∀{els:List Ao} {B off k:Nat},RE F g w B off k els->∃vs:Fm,vs.length=els.length*k/\RL F g w els.flatten vs/\els.flatten.all AV.isCell=true/\(∀ r∈els,r.length=k)/\
 ∀(j:Nat) (v:Value),vs[j]? =some v->w.cell? ⟨B,off+j,none⟩=some v/\F ⟨B,off+j,none⟩
 | [],B,off,k,_=>⟨[],Ab,by simp[RL],rfl,Ab,Ab⟩
 |x::xs,B,off,k,h=>by
  simp only[RE]at h;obtain⟨h1,h2,h3⟩:=h;obtain⟨us,a1,a2,a3⟩:=Aah h2;obtain⟨vs,b1,b2,b3,b5,b4⟩:=Ahs h3;refine⟨us++vs,by simp[a1,b1,h1,Pr]; omega,by simpa using Ld a2 b2,by simp only[Tr,Wm,Bb]; exact⟨Ahz h2,b3⟩,by simpa using⟨h1,b5⟩,fun j v hj=>?_⟩;rcases E8 j us.length with Af|Y6
  . rw[D5 Af]at hj;exact a3 j v hj
  rw[Hj Y6]at hj;have:=b4 _ v hj;rwa [show off+k+(j-us.length)=off+j by omega]at this
def Aai:∀{xs:List AV} {B off:Nat} {vs:List Value},RL F g w xs vs->xs.all AV.isCell=true->(∀ (j:Nat) (v:Value),vs[j]? =some v->w.cell? ⟨B,off+j,none⟩=some v/\F ⟨B,off+j,none⟩)->RM F g w B off xs
 | [],_,_,_,_,_,_=>by simp[RM]
 |x::xs,B,off,vs,h,hc,hv=>by
  simp only[RL]at h;obtain⟨v,r,rfl,h1,h2⟩:=h;simp only[Er,Bb]at hc;simp only[RM];have h0:=hv 0 v rfl;refine⟨⟨hc.1,v,h0.2,h0.1,h1⟩,Aai h2 hc.2 fun j u hj=>?_⟩;have:=hv (j+1) u (by simpa using hj);rwa [show off+(j+1)=off+1+j by omega]at this
def fa:∀{els:List (List AV)} {B off k:Nat} {vs:List Value},(∀ r∈els,r.length=k)->RL F g w els.flatten vs->els.flatten.all AV.isCell=true->(∀ (j:Nat) (v:Value),vs[j]? =some v->w.cell? ⟨B,off+j,none⟩=some v/\F ⟨B,off+j,none⟩)->RE F g w B off k els
 | [],_,_,_,_,_,_,_,_=>by simp[RE]
 |x::xs,B,off,k,vs,hk,h,hc,hv=>by
  simp only[Tr,Wm,Bb]at hc h;have hx:=hk x Ab;have hlen:=H5 h;have h1:=qq h x.length;have h2:=Zz h x.length;rw[List.take_left]at h1;rw[List.drop_left]at h2;simp only[RE];refine⟨hx,Aai h1 hc.1 fun j v hj=>?_,fa (fun r hr=>hk r (by simp[hr])) h2 hc.2 fun j v hj=>?_⟩
  . rw[yi]at hj;split at hj
    . exact hv j v hj
    cases hj
  rw[ei]at hj;have:=hv _ v hj;rw[show off+(x.length+j)=off+k+j by omega]at this;exact this
def A9b{k:Nat}(h:∀r∈els,r.length=k):els.flatten.length=els.length*k:=by
 induction els with
 |nil=>simp
 |cons x xs ih=>
  have:=ih fun r hr=>h r (by simp[hr]);simp only[Tr,Po,this,h x Ab,Gq,Pr]; omega
def Abw{k:Nat} :∀{rows:List (List AV)} {i:Nat} {c:List AV},(∀ r∈rows,r.length=k)->c.length=k->i<rows.length->(rows.set i c).flatten=Wb rows.flatten (i*k) c
 | [],i,c,_,_,hi=>by simp at hi
 |x::xs,i,c,hk,hc,hi=>by
  have hx:=hk x Ab
  cases i with
  |zero=>
   simp only[Ahb,Tr,Wb,ql,List.take_zero,Gx,Pt]
   rw[hc,<-hx,List.drop_left]
  |succ i=>
   have ih:=Abw (k:=k) (rows:=xs) (i:=i) (c:=c) (fun r hr=>hk r (by simp[hr])) hc (by simpa using hi);simp only[y9,Tr,ih,Wb];rw[show(i+1)*k=x.length+i*k by rw[Pr,hx]; omega,List.take_length_add_append,show x.length+i*k+c.length=x.length+(i*k+c.length) by omega,List.drop_length_add_append];simp[Ow]
def Ata{k:Nat} :∀{ps:List (Nat×AV)} {vs:List (Nat×Value)} {rows:List Ao} {cv:Array Value} {r:List Ao},(∀ x∈rows,x.length=k)->RL F g w rows.flatten cv.toList->rows.flatten.all AV.isCell=true->Dx k rows ps=some r->
 ps.length=vs.length->(∀ (j:Nat) p q,ps[j]? =some p->vs[j]? =some q->q.1=p.1/\R F g w p.2 q.2)->∃rv,Instr.fill (fun i=>some (i*k,k)) cv vs=some rv/\RL F g w r.flatten rv.toList/\(∀ x∈r,x.length=k)/\r.length=rows.length/\r.flatten.all AV.isCell=true
 | [],vs,rows,cv,r,hk,h,hc,hf,hl,_=>by
   simp only[Dx,Ay]at hf;subst hf;have:vs=[]:=by cases vs with |nil=>rfl|cons _ _=>simp at hl
   subst this
   exact⟨cv,rfl,h,hk,rfl,hc⟩
 |p::ps,vs,rows,cv,r,hk,h,hc,hf,hl,hp=>by
  cases vs with
  |nil=>simp at hl
  |cons q vs=>
   obtain⟨i,x⟩:=p;obtain⟨i',v⟩:=q;obtain⟨h1,h2⟩:=hp 0 _ _ rfl rfl;simp only at h1 h2;subst h1;simp only[Dx]at hf;split at hf
   . rename_i nb;obtain⟨c1,c2,c3⟩:=nb;have En:=ma h2;have hlen:=H5 En;have B7:=H5 h;rw[A9b hk]at B7;simp only[Ou]at hlen B7
     have hmul:i'*k+k<=rows.length*k:=by
      have:(i'+1)*k<=rows.length*k:=qk k c2;rw[Pr]at this;omega
     have Am:i'*k+v.cells.size<=cv.size:=Aa
     obtain⟨rv,e1,e2,e3,e4,e5⟩:=Ata (k:=k) (ps:=ps) (vs:=vs) (rows:=rows.set i' x.cells) (cv:=v.cells.zipIdx.foldl (fun(cs:Array Value) (c,j)=>cs.setIfInBounds (i'*k+j) c) cv) (r:=r)
      (fun y hy=>by rcases List.mem_or_eq_of_mem_set hy with hy|rfl;exact hk y hy;exact c1) (by rw[Atb cv v _ Am,Abw hk c1 c2]; exact qp h En _)
      (by
       rw[Abw hk c1 c2];simp only[Wb,Wm,Bb];rw[Pn]at hc
       exact⟨⟨List.all_eq_true.2 fun y hy=>hc y (List.mem_of_mem_take hy),c3⟩,List.all_eq_true.2 fun y hy=>hc y (List.mem_of_mem_drop hy)⟩) hf (by simpa using hl) (fun j a b ha hb=>hp (j+1) a b (by simpa using ha) (by simpa using hb))
     refine⟨rv,?_,e2,e3,by rw[e4,List.length_set],e5⟩;simp only[Instr.fill];have:(decide (v.cells.size≠k)||decide (i'*k+v.cells.size>cv.size))=false:=by simp;omega
     simp only[this,Dp,Bq];exact e1
   cases hf
def wn{H:Ai}(hs:St F g H w){ob:Obj}{w':World}(Tc:w'.heap=w.heap.push ob)(Kb:w'.os=w.os/\w'.output=w.output):
 St (fun a=>F a\/(a.block=w.heap.size/\a.spot=none)) g H w'/\Bn F g H w (fun a=>F a\/(a.block=w.heap.size/\a.spot=none)) g H w':=by
 have Af:∀b,b<w.heap.size->w'.heap[b]? =w.heap[b]?:=fun b hb=>by rw[Tc]; exact X1 w _ b hb
 have hK:Fi F g w (fun a=>F a\/(a.block=w.heap.size/\a.spot=none)) g w':=⟨fun _ h=>.inl h,fun a ha=>Oa (Af _ (hs.live a ha)),Gh.le_refl g⟩;have hz:w'.heap.size=w.heap.size+1:=by rw[Tc]; simp
 refine⟨⟨fun a ha=>?_,hs.beyond,hs.inj,fun b cs hb=>?_,fun t n k ty ht=>?_,fun b off s h=>?_,fun b e cs hb=>?_,fun b ks hb=>?_⟩,⟨hK.sub,hK.keep,hK.gh,Aa,fun B hB _=>Af B hB,fun a h=>?_,fun b B hb h=>.inl ⟨hb,h⟩,Bm _,Kb⟩⟩
 . rcases ha with ha|⟨ha,_⟩
   . have:=hs.live a ha;omega
   omega
 . obtain⟨B,us,e',h1,h2,h3,h4,h5⟩:=hs.var b cs hb
   exact⟨B,us,e',h1,h2,(Af B (D1 h3)).trans h3,RL.mono hK _ _ h4,fun off h=>by
    rcases h with h|⟨h,_⟩
    . exact h5 off h
    have:=D1 h3;simp at h;omega⟩
 . obtain⟨B,cap,us,e',fr,h1,h2,h3,h4,h5,h6⟩:=hs.tok t n k _ ht
   exact⟨B,cap,us,e',fr,h1,h2,(Af B (D1 h3)).trans h3,h4,h5,fun off ho h=>by
    rcases h with h|⟨h,_⟩
    . exact h6 off ho h
    have:=D1 h3;simp at h;omega⟩
 . rcases h with h|⟨_,h⟩
   . exact hs.spots b off s h
   cases h
 . obtain⟨B,us,h1,h2,h3,h4,h5⟩:=hs.tvar b e cs hb
   exact⟨B,us,h1,h2,(Af B (D1 h3)).trans h3,RL.mono hK _ _ h4,fun off h=>by
    rcases h with h|⟨h,_⟩
    . exact h5 off h
    have:=D1 h3;simp at h;omega⟩
 . rcases hs.mp b _ hb with q|⟨B,es,ck,h1,h2,h3,h4⟩
   . exact .inl q
   exact .inr ⟨B,es,ck,h1,h2,(Af B (D1 h3)).trans h3,h4⟩
 rcases h with h|⟨h,_⟩
 . exact .inl h
 exact .inr (.inl Aa)
def Asl:∀{parts:List (Nat×Operand)} {ps:List (Nat×AR)},gj parts=some ps->ps.length=parts.length/\∀(j:Nat) q,parts[j]? =some q->∃y,B9 q.2=some y/\ps[j]? =some (q.1,y)
 | [],ps,h=>by simp only[gj,Ay]at h;subst h;simp
 |(i,x)::r,ps,h=>by
  simp only[gj]at h;split at h
  . rename_i y ys h2 h3;simp only[Ay]at h;subst h;obtain⟨e1,e2⟩:=Asl h3;refine⟨by simp[e1],fun j q hq=>?_⟩
    cases j with
    |zero=>simp at hq;subst hq;exact⟨y,h2,rfl⟩
    |succ j=>simp at hq;simpa using e2 j q hq
  cases h
def Agn:∀{vs:List Value} {xs:List AV},X8 vs=some xs->xs.all AV.isCell=true
 | [],xs,h=>by simp only[X8,Ay]at h;subst h;rfl
 |v::r,xs,h=>by
  simp only[X8]at h;split at h
  . rename_i x ys h1 h2;simp only[Ay]at h;subst h;simp only[Er,Bb];refine⟨?_,Agn h2⟩;unfold o6 at h1
    split at h1<;>first
     |(simp only[Ay]at h1;subst h1;rfl)
     |(split at h1<;>first |(simp only[Ay]at h1;subst h1;rfl)|cases h1)
     |cases h1
  cases h
def A20(z:Array Value)(k len:Nat)(hz:z.size=k)(hk:0<k):((Array.range (len*k)).map (fun x=>z[x%z.size]!)).toList=(List.replicate len z.toList).flatten:=by
 apply Tq;intro i;rw[ld,Array.toList_range,Vf];have hl:(List.replicate len z.toList).flatten.length=len*k:=by simp[hz]
 rcases E8 i (len*k)with hi|hi
 . rw[List.getElem?_range hi,Tx,hz];have hmod:i%k<z.size:=by rw[hz]; exact Nat.mod_lt _ hk
   rw[R4 z _ hmod];clear hl
   induction len generalizing i with
   |zero=>simp at hi
   |succ len ih=>
    rw[lq,Tr];rcases E8 i k with h|h
    . rw[D5 (by simpa[hz]using h)];simp[Nat.mod_eq_of_lt h,hz,h]
    rw[Hj (by simpa[hz]using h)];simp only[Ou,hz];rw[Pr,Nat.one_mul]at hi;have hmod':(i-k)%k<z.size:=by rw[hz]; exact Nat.mod_lt _ hk
    rw[<- ih (i-k) Aa hmod'];congr 1;have:i%k=(i-k)%k:=by rw[Nat.mod_eq_sub_mod h]
    simp only[this]
 rw[Im (by simpa using hi),Im Aa]; rfl
section
variable {H H':List HB} {t:List AV} {a:Act} {o:Oper} {v:AV} (hs:St F g H w) (ht:Tm F g w t a)
include hs ht
def Bc5{len:Nat}{parts:Array (Nat×Operand)}{z:Ao}{ps:List (Nat×AR)}(ho:o.op= .buildSlice ty len parts)(h1:P.underlying ty=some (.slice e))(hi:P.info? e=some i)(h2:N4 P e=some z)
 (h4:gj parts.toList=some ps) (Cl:0<i.size/\z.length=i.size/\len*i.size<=10000/\0<len) (he:B4 (.buildSl i.size z len ps) (Bh t) H=some (v,H')):Cw P o a F g H w v H':=by
 obtain⟨z1,z2,z3,z4⟩:=Cl;have h2':=h2;unfold N4 at h2';rw[hi]at h2';simp only at h2'
 cases hzv:i.zero with
 |none=>rw[hzv]at h2';cases h2'
 |some zv=>
  rw[hzv]at h2';simp only at h2';have hzR:RL F g w z zv.cells.toList:=o7 h2';have Xt:=H5 hzR;simp only[Ou]at Xt;obtain⟨f1,f2⟩:=Asl h4;simp only[B4]at he;split at he
  . rename_i rows uh;simp only[Ay,Cg]at he;obtain⟨rfl,rfl⟩:=he
    have Ok:∀n,RL F g w (List.replicate n z).flatten (List.replicate n zv.cells.toList).flatten:=by
     intro n
     induction n with
     |zero=>simp[RL]
     |succ n ih=>simp only[lq,Tr]; exact Ld hzR ih
    have Acu:∀n,(List.replicate n z).flatten.all AV.isCell=true:=by
     intro n
     induction n with
     |zero=>simp
     |succ n ih=>simp only[lq,Tr,Wm,Bb]; exact⟨Agn h2',ih⟩
    obtain⟨rv,e1,e2,e3,e4,e5⟩:=Ata (k:=i.size) (vs:=(parts.map fun(i,x)=>(i,a.eval x)).toList) (cv:=(Array.range (len*i.size)).map (fun x=>zv.cells[x%zv.cells.size]!)) (rows:=List.replicate len z)
     (fun x hx=>by rw[A3o hx]; exact z2) (by rw[A20 zv.cells i.size len Aa z1]; exact Ok len) (Acu len) uh (by simp[f1]) (fun j p q hp hq=>by
      simp only[ld,Vf,Ef]at hq hp;obtain⟨q',Ta,rfl⟩:=hq;obtain⟨p',hp',rfl⟩:=hp;obtain⟨y,g1,g2⟩:=f2 j q' Ta;rw[hp']at g2;cases g2
      exact⟨rfl,E2 ht g1⟩)
    simp only[A3t]at e4;let w':World:={w with heap:=w.heap.push (.cells rv e)};obtain⟨s1,s2⟩:=wn hs (ob:=.cells rv e) (w':=w') rfl ⟨rfl,rfl⟩;refine⟨.value (.slice (some ⟨w.heap.size,0,none⟩) len len),w',_,g,?_,.inl ⟨_,rfl,?_⟩,s1,s2⟩
    . have Bg:¬len*i.size>2^24:=by omega
      have Aco:¬len*i.size=0:=by
       have:=Nat.mul_pos z4 z1;omega
      simp only[execOp,ho,Instr.buildSlice,Sem.run_bind,Fq h1,Result.andThen_ok,Pg hi,Ac Bg,Ac Aco,kr hi hzv,Sem.run_pure,newRow];rw[e1];rfl
    simp only[R,e4]
    have hlen1:len<=10000:=by
     have:len*1<=len*i.size:=Aab len z1;omega
    refine⟨by unfold A1;omega,.inr ⟨w.heap.size,0,none,len,i.size,rfl,Bm _,⟨z1,.inr rfl⟩,?_,rfl⟩⟩;refine fa e3 (RL.mono s2.keeps _ _ e2) e5 fun j u hj=>⟨?_,.inr ⟨rfl,rfl⟩⟩;have:w'.heap[w.heap.size]? =some (.cells rv e):=X2 w _;simp only[World.cell?,this,Oz,Dp,Bq,Pt];simpa using hj
  cases he
end
end
end
section
section
variable {F:Addr->Prop} {g:Gh} {w:World} {P:Program}
structure Z3 (P:Program) (w:World) (size:Nat) (x:Value) (m:Nat) (news:List Value):Prop where
 len:∀w',(Builtin.lenOf x).run P w'= .ok m w'
 read:∀w':World,(∀ a,w'.cell? a=w.cell? a)->(Builtin.firstCells size m x).run P w'= .ok news.toArray w'
structure ee (P:Program) (ats:Array TypeId) (e:TypeId) (i:TypeInfo):Prop where
 t0:∃t,ats[0]? =some t/\P.underlying t=some (.slice e)
 t1:∃u d,ats[1]? =some u/\P.underlying u=some d/\(d matches .int _)=false
 info:P.info? e=some i
def Boa{ats:Array TypeId}(hA:ee P ats e i){B n cap m:Nat}{x:Value}{news:Fm}(hS:Z3 P w i.size x m news){vs:Fm}{el:TypeId}{fr:Nat×Nat}
 (hb:w.heap[B]? =some (.cells vs.toArray el fr)) (hc:news.all Value.oneCell'=true) (Am:n*i.size+news.length<=vs.length) (hfr:fr.2<=n*i.size) (jg:n+m<=cap):
 ∃w',(Builtin.append_ ats ty #[.slice (some ⟨B,0,none⟩) n cap,x]).run P w= .ok (.slice (some ⟨B,0,none⟩) (n+m) cap) w'/\w'.heap.size=w.heap.size/\
  w'.heap[B]? =some (.cells (Rl vs (n*i.size) news).toArray el fr)/\(∀ b,b≠B->w'.heap[b]? =w.heap[b]?)/\w'.os=w.os/\w'.output=w.output:=by
 obtain⟨t,a0,u0⟩:=hA.t0;obtain⟨u,d,a1,u1,hd⟩:=hA.t1;obtain⟨w',k1,k2,k3,k4,k5⟩:=w9 P B el fr news vs (n*i.size) 0 w hb hc Aa Aa;refine⟨w',?_,k2,k3,k4,k5⟩;have hr:=hS.read w fun _=>rfl;simp only[Builtin.append_,a0,a1,Zw,Tt,Ts,Sem.run_bind,Fq u0,Fq u1,Result.andThen_ok,Pg hA.info,Sem.run_pure];cases d<;>first |(cases hd;done)|skip
 all_goals
  simp only[Dp,Bq,hS.len w,Result.andThen_ok,Ae jg,pw,Bp,Sem.run_bind,hr,T4,Pt,k1,Sem.run_pure]
def Bob{ats:Array TypeId}{z:Value}(hA:ee P ats e i)(hz:i.zero=some z){base:Option Addr}{n cap m:Nat}{x:Value}{news olds:Fm}(hS:Z3 P w i.size x m news)
 (hO:Z3 P w i.size (.slice base n cap) n olds) (jg:cap<n+m) (M6:n+m<=A1) (Acb:(n+m)*i.bytes<=140737488355328):
 ∃nc,n+m<=nc/\(Builtin.append_ ats ty #[.slice base n cap,x]).run P w= .ok (.slice (some ⟨w.heap.size,0,none⟩) (n+m) nc)
  {w with drawn:=w.drawn+1,heap:=w.heap.push (.cells (olds.toArray++news.toArray++Builtin.zeroCells z.cells (nc-(n+m))) e)}:=by
 obtain⟨t,a0,u0⟩:=hA.t0;obtain⟨u,d,a1,u1,hd⟩:=hA.t1;have hn:¬(n+m<=cap):=Aa;have hfits:=growslice_fits (bytes:=i.bytes) jg Acb;have A9w:¬Builtin.nextslicecap (n+m) cap*i.bytes>2^48:=Aa
 have Iu:∀q:Prop,¬(((n+m:Nat):Int)>IntKind.i64.max/\q):=by
  intro q h;have h1:=h.1;unfold IntKind.max IntKind.signed IntKind.bits at h1;unfold A1 at M6;simp at h1;omega
 refine⟨(Question.appendCap (n+m) cap e).cut (w.tape w.drawn (.appendCap (n+m) cap e)),by simp only[Question.cut]; omega,?_⟩;have hr:=hS.read {w with drawn:=w.drawn+1} fun _=>rfl;have br:=hO.read {w with drawn:=w.drawn+1} fun _=>rfl;simp only[Builtin.append_,a0,a1,Zw,Tt,Ts,Sem.run_bind,Fq u0,Fq u1,Result.andThen_ok,Pg hA.info,Sem.run_pure];cases d<;>first |(cases hd;done)|skip
 all_goals
  simp only[Dp,Bq,hS.len w,Result.andThen_ok,Ac hn,Ac (Iu _),Sem.run_bind,xa hA.info,Ac A9w,run_choose,Question.forced,run_askRoom,br,pw,Bp,hr,kr hA.info hz,newRow,run_newObj,Sem.run_pure]
end
end
section
section
variable {F:Addr->Prop} {g:Gh} {w:World} {P:Program}
def Ahn:∀{xs ys:List (List AV)} {B off k:Nat},RE F g w B off k xs->RE F g w B (off+xs.length*k) k ys->RE F g w B off k (xs++ys)
 | [],ys,B,off,k,_,h=>by simpa using h
 |x::xs,ys,B,off,k,h,h'=>by
  simp only[RE]at h;simp only[Gb,RE];refine⟨h.1,h.2.1,Ahn h.2.2 ?_⟩;simp only[Gq,Pr,Nat.one_mul]at h';rwa [show off+k+xs.length*k=off+(xs.length*k+k) by omega]
def A4i{H:Ai}(hs:St F g H w){t n k cap B m:Nat}{ty':TypeId}(hH:H[t]? =some (.tok n k ty))(hB:g.blk t=some B)(hT:g.tk t=some (n,cap)){vs news:Fm}{el:TypeId}{fr:Nat×Nat}(hty:ty'≠0->el=ty')
 (hb:w.heap[B]? =some (.cells vs.toArray el fr)) (Cl:vs.length=cap*k) (hfr:fr.2<=n*k) (Dv:n+m<=cap) (hl:news.length=m*k) (hF:∀off,n*k<=off->¬F ⟨B,off,none⟩)
 {w':World} (z:w'.heap.size=w.heap.size) (hn:w'.heap[B]? =some (.cells (Rl vs (n*k) news).toArray el fr)) (ho:∀b,b≠B->w'.heap[b]? =w.heap[b]?) (Kb:w'.os=w.os/\w'.output=w.output):
 ∃F' g',(∀ off,off<(n+m)*k->F' ⟨B,off,none⟩)/\St F' g' (H.set t (.tok (n+m) k ty')) w'/\Bn F g H w F' g' (H.set t (.tok (n+m) k ty')) w'/\g'.blk t=some B/\g'.tk t=some (n+m,cap):=by
 have Nt:t<H.length:=(List.getElem?_eq_some_iff.1 hH).1;have Af:=D1 hb
 have hk1:k≠1\/el=3->fr=(0,0):=by
  obtain⟨X,c,us,ex,frx,h1,h2,h3,h4,_⟩:=hs.tok t n k _ hH;rw[hB]at h1;cases h1;rw[hb]at h3;cases h3;exact h4.2.2.2
 let F':Addr->Prop:=fun a=>F a\/(a.block=B/\a.spot=none/\a.off<(n+m)*k);let g':Gh:=⟨g.blk,fun x=>if x=t then some (n+m,cap)else g.tk x⟩;have gt:g'.tk t=some (n+m,cap):=by show(if t=t then _ else _)=_;rw[Ae rfl]
 have gx:∀x,x≠t->g'.tk x=g.tk x:=fun x hx=>by show(if x=t then _ else _)=_;rw[Ac hx]
 have hmul:(n+m)*k=n*k+m*k:=Pr _ _ _;have hcapk:(n+m)*k<=cap*k:=qk k Dv
 have hK:Fi F g w F' g' w':=by
  refine⟨fun _ h=>.inl h,fun a ha=>?_,⟨fun b X h1 h2=>?_,fun x mx c h=>?_⟩⟩
  . by_cases e:a.block=B
    . cases a with
      |mk bl off spot=>
       simp only at e;subst e
       cases spot with
       |some s=>exact absurd ha (hs.spots _ _ _)
       |none=>
        have bf:off<n*k:=by
         rcases E8 off (n*k)with h|h
         . exact h
         exact absurd ha (hF off h)
        simp only[World.cell?,hn,hb,Oz,Dp,Bq];simp only[Rl,Zw,Ow];rw[D5 (by simp;omega),yi,Ae bf]
    exact Oa (ho _ e)
  . have:b≠t:=fun e=>by subst e;rw[hT]at h2;cases h2
    exact⟨h1,(gx b this).trans h2⟩
  by_cases e:x=t
  . subst e;rw[hT]at h;cases h;exact⟨n+m,cap,gt,Aa,fun _=>⟨rfl,rfl⟩⟩
  exact⟨mx,c,(gx x e).trans h,Bm _,fun _=>⟨rfl,rfl⟩⟩
 have hXB:∀x X,x≠t->g.blk x=some X->X≠B:=fun x X hx hX e=>hx (hs.inj x t B (by rw[hX,e]) hB);refine⟨F',g',fun off h=>.inr ⟨rfl,rfl,h⟩,⟨fun a ha=>?_,fun x hx=>?_,hs.inj,fun x cx hx=>?_,fun x nx kx tx hx=>?_,fun b off s h=>?_,fun x ex cx hx=>?_,fun x ks hx=>?_⟩,⟨hK.sub,hK.keep,hK.gh,Aa,fun X hX Q7=>ho X (fun e=>Q7 t Nt (by rw[hB,e])),fun a h=>?_,fun x X hx h=>.inl ⟨by simpa using hx,h⟩,Ab,Kb⟩,hB,gt⟩
 . rcases ha with ha|⟨ha,_⟩
   . rw[z]; exact hs.live a ha
   omega
 . have:=hs.beyond x (by simpa using hx);exact⟨this.1,(gx x (fun e=>by subst e;rw[List.length_set]at hx;omega)).trans this.2⟩
 . by_cases e:x=t
   . subst e;rw[Ks Nt]at hx;cases hx
   rw[Ia (Ib e)]at hx;obtain⟨X,us,ex,h1,h2,h3,h4,h5⟩:=hs.var x cx hx;have Bg:=hXB x X e h1
   exact⟨X,us,ex,h1,(gx x e).trans h2,(ho X Bg).trans h3,RL.mono hK _ _ h4,fun off h=>by
    rcases h with h|⟨h,_⟩
    . exact h5 off h
    exact Bg h⟩
 . by_cases e:x=t
   . subst e;rw[Ks Nt]at hx;cases hx;refine⟨B,cap,_,el,fr,hB,gt,hn,⟨Aa,?_,hty,hk1⟩,Dv,fun off bf h=>?_⟩
     . simp[Rl,hl]; omega
     rcases h with h|⟨_,_,h⟩
     . exact hF off Aa h
     simp only at h;omega
   rw[Ia (Ib e)]at hx;obtain⟨X,cx,us,ex,frx,h1,h2,h3,h4,h5,h6⟩:=hs.tok x nx kx _ hx;have Bg:=hXB x X e h1
   exact⟨X,cx,us,ex,frx,h1,(gx x e).trans h2,(ho X Bg).trans h3,h4,h5,fun off bf h=>by
    rcases h with h|⟨h,_⟩
    . exact h6 off bf h
    exact Bg h⟩
 . rcases h with h|⟨_,h,_⟩
   . exact hs.spots b off s h
   cases h
 . by_cases e:x=t
   . subst e;rw[Ks Nt]at hx;cases hx
   rw[Ia (Ib e)]at hx;obtain⟨X,us,h1,h2,h3,h4,h5⟩:=hs.tvar x ex cx hx;have Bg:=hXB x X e h1
   exact⟨X,us,h1,(gx x e).trans h2,(ho X Bg).trans h3,RL.mono hK _ _ h4,fun off h=>by
    rcases h with h|⟨h,_⟩
    . exact h5 off h
    exact Bg h⟩
 . by_cases e:x=t
   . subst e;rw[Ks Nt]at hx;cases hx
   rw[Ia (Ib e)]at hx;rcases hs.mp x _ hx with⟨h0,h1,h2⟩|⟨X,es,ck,h1,h2,h3,h4⟩
   . exact .inl ⟨h0,h1,(gx x e).trans h2⟩
   have Bg:=hXB x X e h1;exact .inr ⟨X,es,ck,h1,(gx x e).trans h2,(ho X Bg).trans h3,h4⟩
 rcases h with h|⟨h,_⟩
 . exact .inl h
 exact .inr (.inr ⟨t,Nt,by rw[hT]; simp,by rw[hB,h]⟩)
def Aay{H H':Ai}(hs:St F g H w){t n k cap:Nat}(h1:H'[t]? =some (.tok n k ty))(h2:∀x,x≠t->H'[x]? =H[x]?)(h3:H.length<=H'.length)(h4:H'.length<=max H.length (t+1))
 (h5:(t=H.length)\/(∃ n0 c0,g.tk t=some (n0,c0)/\n0<n/\t<H.length)\/(g.blk t=none/\g.tk t=none)) {vs:Array Value}  (jj:ty≠0->e=ty) (Cl:vs.size=cap*k) (Dv:n<=cap) {w':World} (hw:w'.heap=w.heap.push (.cells vs e)) (Kb:w'.os=w.os/\w'.output=w.output):
 ∃F' g',(∀ off,off<n*k->F' ⟨w.heap.size,off,none⟩)/\St F' g' H' w'/\Bn F g H w F' g' H' w'/\g'.blk t=some w.heap.size/\g'.tk t=some (n,cap):=by
 have Af:∀b,b<w.heap.size->w'.heap[b]? =w.heap[b]?:=fun b hb=>by rw[hw]; exact X1 w _ b hb
 have hz:w'.heap.size=w.heap.size+1:=by rw[hw]; simp
 have Oi:w'.heap[w.heap.size]? =some (.cells vs e):=by rw[hw]; exact X2 w _
 have Nt:t<H'.length:=(List.getElem?_eq_some_iff.1 h1).1;let F':Addr->Prop:=fun a=>F a\/(a.block=w.heap.size/\a.spot=none/\a.off<n*k);let g':Gh:=⟨fun x=>if x=t then some w.heap.size else g.blk x,fun x=>if x=t then some (n,cap)else g.tk x⟩;have gt:g'.tk t=some (n,cap):=by show(if t=t then _ else _)=_;rw[Ae rfl]
 have gbt:g'.blk t=some w.heap.size:=by show(if t=t then _ else _)=_;rw[Ae rfl]
 have gx:∀x,x≠t->g'.tk x=g.tk x:=fun x hx=>by show(if x=t then _ else _)=_;rw[Ac hx]
 have gbx:∀x,x≠t->g'.blk x=g.blk x:=fun x hx=>by show(if x=t then _ else _)=_;rw[Ac hx]
 have hK:Fi F g w F' g' w':=by
  refine⟨fun _ h=>.inl h,fun a ha=>Oa (Af _ (hs.live a ha)),⟨fun b X q1 q2=>?_,fun x mx c h=>?_⟩⟩
  . have:b≠t:=fun e=>by
     subst e;rcases h5 with h5|⟨n0,c0,h5,_⟩|⟨h5,_⟩
     . have:=(hs.beyond b Aa).1;rw[this]at q1;cases q1
     . rw[h5]at q2;cases q2
     rw[h5]at q1;cases q1
    exact⟨(gbx b this).trans q1,(gx b this).trans q2⟩
  by_cases e:x=t
  . subst e;rcases h5 with h5|⟨n0,c0,h5,hn,_⟩|⟨_,h5⟩
    . have:=(hs.beyond x Aa).2;rw[this]at h;cases h
    . rw[h5]at h;cases h;exact⟨n,cap,gt,Aa,fun e=>Aa⟩
    rw[h5]at h;cases h
  exact⟨mx,c,(gx x e).trans h,Bm _,fun _=>⟨rfl,gbx x e⟩⟩
 refine⟨F',g',fun off h=>.inr ⟨rfl,rfl,h⟩,⟨fun a ha=>?_,fun x hx=>?_,fun b b' X q1 q2=>?_,fun x cx hx=>?_,fun x nx kx tx hx=>?_,fun b off s h=>?_,fun x ex cx hx=>?_,fun x ks hx=>?_⟩,⟨hK.sub,hK.keep,hK.gh,Aa,fun X hX _=>Af X hX,fun a h=>?_,fun x X hx h=>?_,h3,Kb⟩,gbt,gt⟩
 . rcases ha with ha|⟨ha,_⟩
   . have:=hs.live a ha;omega
   omega
 . have hxt:x≠t:=by omega
   have:=hs.beyond x Aa;exact⟨(gbx x hxt).trans this.1,(gx x hxt).trans this.2⟩
 . by_cases e:b=t<;>by_cases e':b'=t
   . omega
   . subst e;rw[gbt]at q1;cases q1;rw[gbx b' e']at q2;have:=hs.blk_lt q2;omega
   . subst e';rw[gbt]at q2;cases q2;rw[gbx b e]at q1;have:=hs.blk_lt q1;omega
   rw[gbx b e]at q1;rw[gbx b' e']at q2;exact hs.inj b b' X q1 q2
 . by_cases e:x=t
   . subst e;rw[h1]at hx;cases hx
   rw[h2 x e]at hx;obtain⟨X,us,ex,q1,q2,q3,q4,q5⟩:=hs.var x cx hx
   exact⟨X,us,ex,(gbx x e).trans q1,(gx x e).trans q2,(Af X (D1 q3)).trans q3,RL.mono hK _ _ q4,fun off h=>by
    rcases h with h|⟨h,_⟩
    . exact q5 off h
    have:=D1 q3;simp only at h;omega⟩
 . by_cases e:x=t
   . subst e;rw[h1]at hx;cases hx;refine⟨w.heap.size,cap,vs,_,(0,0),gbt,gt,Oi,⟨Nl _,Cl,jj,fun _=>rfl⟩,Dv,fun off bf h=>?_⟩;rcases h with h|⟨_,_,h⟩
     . have:=hs.live _ h;simp at this
     simp only at h;omega
   rw[h2 x e]at hx;obtain⟨X,cx,us,ex,frx,q1,q2,q3,q4,q5,q6⟩:=hs.tok x nx kx _ hx
   exact⟨X,cx,us,ex,frx,(gbx x e).trans q1,(gx x e).trans q2,(Af X (D1 q3)).trans q3,q4,q5,fun off bf h=>by
    rcases h with h|⟨h,_⟩
    . exact q6 off bf h
    have:=D1 q3;simp only at h;omega⟩
 . rcases h with h|⟨_,h,_⟩
   . exact hs.spots b off s h
   cases h
 . by_cases e:x=t
   . subst e;rw[h1]at hx;cases hx
   rw[h2 x e]at hx;obtain⟨X,us,q1,q2,q3,q4,q5⟩:=hs.tvar x ex cx hx
   exact⟨X,us,(gbx x e).trans q1,(gx x e).trans q2,(Af X (D1 q3)).trans q3,RL.mono hK _ _ q4,fun off h=>by
    rcases h with h|⟨h,_⟩
    . exact q5 off h
    have:=D1 q3;simp only at h;omega⟩
 . by_cases e:x=t
   . subst e;rw[h1]at hx;cases hx
   rw[h2 x e]at hx;rcases hs.mp x _ hx with⟨q0,q1,q2⟩|⟨X,es,ck,q1,q2,q3,q4⟩
   . exact .inl ⟨q0,(gbx x e).trans q1,(gx x e).trans q2⟩
   exact .inr ⟨X,es,ck,(gbx x e).trans q1,(gx x e).trans q2,(Af X (D1 q3)).trans q3,q4⟩
 . rcases h with h|⟨h,_⟩
   . exact .inl h
   exact .inr (.inl Aa)
 by_cases e:x=t
 . subst e;rw[gbt]at h;cases h;right;omega
 rw[gbx x e]at h;exact .inl ⟨hs.lt h,h⟩
end
end
