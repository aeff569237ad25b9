/- A part of the proof that LiftApplies answers true. -/
import Derived.Test.YtndkeknbfbdeeaaGreatDoorG02
set_option linter.all false
set_option maxHeartbeats 4000000
set_option maxRecDepth 100000
namespace Go.Proofs.YtndkeknbfbdeeaaGreatDoor
open Go
variable {listed:Array Bool}{ops:Array Oper}{Q:Exit->Act->World->Prop}{f:FuncId}{ds:List Deferred}{dst:Option Nat}{e ty:TypeId}{i:TypeInfo}
section
section
variable {F:Addr->Prop} {g:Gh} {w:World} {P:Program}
def A07{tok:Dh}{ys:List Ao}{x:Value}(h:R F g w (.sl tok ys) x){k:Nat}(hk:D3 k ys=true):
 ∃news:Fm,Z3 P w k x ys.length news/\news.length=ys.length*k/\RL F g w ys.flatten news/\ys.flatten.all AV.isCell=true/\(∀ r∈ys,r.length=k):=by
 obtain⟨_,⟨rfl,rfl,_⟩|⟨B,off,sp,cap,k',rfl,_,⟨J0,Zb⟩,h3,_⟩⟩:=L7 h
 . exact⟨[],⟨fun _=>rfl,fun _ _=>rfl⟩,Ab,by simp[RL],rfl,Ab⟩
 have:ys=[]\/k'=k:=Acj h3 hk;rcases this with rfl|rfl
 . refine⟨[],⟨fun _=>rfl,fun w' _=>?_⟩,Ab,by simp[RL],rfl,Ab⟩;simp only[Builtin.firstCells,Ox,ql];rfl
 rcases Zb with rfl|rfl
 . refine⟨[],⟨fun _=>rfl,fun w' _=>?_⟩,Ab,by simp[RL],rfl,Ab⟩;simp only[Builtin.firstCells,Ox,ql];rfl
 obtain⟨vs,a1,a2,a3,a4,a5⟩:=Ahs h3;refine⟨vs,⟨fun _=>rfl,fun w' Tc=>?_⟩,a1,a2,a3,a4⟩
 exact run_firstCells_some (P:=P) w' k' ys.length ⟨B,off,none⟩ ys.length cap vs a1 fun j v hj=>by
  rw[T4,Tc]; exact(a5 j v hj).1
def Bp5{s:Bu}{x:Value}(h:R F g w (.str s) x):
 ∃news:Fm,Z3 P w 1 x (s.map fun c=>[AV.int .u8 c.toNat]).length news/\news.length=(s.map fun c=>[AV.int .u8 c.toNat]).length*1/\RL F g w (s.map fun c=>[AV.int .u8 c.toNat]).flatten news/\(s.map fun c=>[AV.int .u8 c.toNat]).flatten.all AV.isCell=true/\(∀ r∈(s.map fun c=>[AV.int .u8 c.toNat]),r.length=1):=by
 obtain⟨rfl,hl⟩:=Wv h;refine⟨s.map fun c=>.int .u8 c.toNat,⟨fun _=>by simp[Builtin.lenOf,rt],fun w' _=>?_⟩,Ab,?_,?_,Ab⟩
 . simp only[Builtin.firstCells,Qo,Sem.run_pure];congr 1;apply L5;simp[A27]
 . clear hl h
   induction s with
   |nil=>simp[RL]
   |cons c s ih=>
    simp only[F8,Tr,Gb,Gx,RL];exact⟨_,_,rfl,by simp only[R]; exact⟨trivial,by have:=c.toNat_lt;unfold IntKind.has IntKind.min IntKind.max IntKind.signed IntKind.bits;simp;omega⟩,ih⟩
 simp[List.all_flatten,AV.isCell]
def A0b{ats:Array TypeId}(hA:ee P ats e i){base:Option Addr}{n cap:Nat}{x:Value}(hS:Z3 P w i.size x 0 [])(jg:n<=cap):
 (Builtin.append_ ats ty #[.slice base n cap,x]).run P w= .ok (.slice base n cap) w:=by
 obtain⟨t,a0,u0⟩:=hA.t0;obtain⟨u,d,a1,u1,hd⟩:=hA.t1;have hr:=hS.read w fun _=>rfl;have A9y:n+0<=cap:=Aa;simp only[Builtin.append_,a0,a1,Zw,Tt,Ts,Sem.run_bind,Fq u0,Fq u1,Result.andThen_ok,Pg hA.info,Sem.run_pure];cases d<;>first |(cases hd;done)|skip
 all_goals
  simp only[Dp,Bq,hS.len w,Result.andThen_ok,Ae A9y,pw,Bp,Sem.run_bind,hr];cases base<;>simp[storeCells]
def Aid{H H':Ai}(hs:St F g H w){tok:Dh}{els ys:List Ao}{s x:Value}{v:AV}{k:Nat}(Nr:0<k)(hr:R F g w (.sl tok els) s){ats:Array TypeId}(hA:ee P ats e i)(hi:i.size=k)(hby:i.bytes<=1000)
 {z:Value} (hz:i.zero=some z) (Xt:z.cells.size=k) {news:Fm} (hS:Z3 P w k x ys.length news) (hl:news.length=ys.length*k) (hn:RL F g w ys.flatten news) (hc:ys.flatten.all AV.isCell=true) (uh:∀r∈ys,r.length=k)
 (he:Ey k e tok els ys H=some (v,H')):∃u w' F' g',(Builtin.append_ ats ty #[s,x]).run P w= .ok u w'/\R F' g' w' v u/\St F' g' H' w'/\Bn F g H w F' g' H' w':=by
 subst hi;unfold Ey at he;split at he
 case isFalse=>cases he
 rename_i nb;obtain⟨M6,Y8,hky⟩:=nb
 have Acb:(els.length+ys.length)*i.bytes<=140737488355328:=by
  have:(els.length+ys.length)*i.bytes<=A1*1000:=Nat.mul_le_mul M6 hby;unfold A1 at this;omega
 have Acf:=vw hn hc
 have out:∀(te:TypeId) (t:Nat) (H2:Ai) (base:Option Addr) (cap:Nat),s= .slice base els.length cap->cap<els.length+ys.length->H2[t]? =some (.tok (els.length+ys.length) i.size te)->(te≠0->e=te)->(∀ y,y≠t->H2[y]? =H[y]?)->H.length<=H2.length->H2.length<=max H.length (t+1)->
  ((t=H.length)\/(∃ n0 c0,g.tk t=some (n0,c0)/\n0<els.length+ys.length/\t<H.length)\/(g.blk t=none/\g.tk t=none))->
  ∃u w' F' g',(Builtin.append_ ats ty #[s,x]).run P w= .ok u w'/\R F' g' w' (.sl (.own t) (els++ys)) u/\St F' g' H2 w'/\Bn F g H w F' g' H2 w':=by
  intro te t H2 base cap Ij jg q1 jj q2 q3 q4 q5;subst Ij;obtain⟨olds,o1,o2,o3,o4,o5⟩:=A07 (P:=P) hr Y8;obtain⟨nc,n1,n2⟩:=Bob (ty:=ty) hA hz hS o1 jg M6 Acb
  have Cl:(olds.toArray++news.toArray++Builtin.zeroCells z.cells (nc-(els.length+ys.length))).size=nc*i.size:=by
   have:(Builtin.zeroCells z.cells (nc-(els.length+ys.length))).size=(nc-(els.length+ys.length))*i.size:=by simp[Builtin.zeroCells,Xt]
   simp only[Array.size_append,Tu,this,o2,hl];rw[<- Pr,<-Pr]; congr 1;omega
  obtain⟨F',g',f0,f1,f2,f3,f4⟩:=Aay hs (w':={w with drawn:=w.drawn+1,heap:=w.heap.push (.cells (olds.toArray++news.toArray++Builtin.zeroCells z.cells (nc-(els.length+ys.length))) e)}) q1 q2 q3 q4 q5 jj Cl n1 rfl ⟨rfl,rfl⟩;refine⟨_,_,F',g',n2,?_,f1,f2⟩;simp only[R,Po];refine⟨M6,.inr ⟨w.heap.size,0,none,nc,i.size,rfl,n1,⟨Nr,.inr rfl⟩,?_,⟨_,_,f4,Bm _,fun _=>⟨f3,rfl,rfl,rfl⟩⟩⟩⟩;refine fa (vs:=olds++news) (fun r hr=>?_) ?_ ?_ fun j u hj=>⟨?_,f0 _ ?_⟩
  . rcases List.mem_append.1 hr with hr|hr
    . exact o5 r hr
    exact uh r hr
  . rw[List.flatten_append]; exact Ld (RL.mono f2.keeps _ _ o3) (RL.mono f2.keeps _ _ hn)
  . simp only[List.flatten_append,Wm,Bb]; exact⟨o4,hc⟩
  . simp only[World.cell?,X2,Oz,Dp,Bq,Pt];have Sc:=(List.getElem?_eq_some_iff.1 hj).1;rw[<- Mm];simp only[Wi];rw[D5 (by simpa using Sc)];exact hj
  have Sc:=(List.getElem?_eq_some_iff.1 hj).1;rw[Po,o2,hl,<-Pr]at Sc;omega
 have small:(∃ base cap,s= .slice base els.length cap/\cap=els.length)->Id i.size e tok els H ys=some (v,H')->
  ∃u w' F' g',(Builtin.append_ ats ty #[s,x]).run P w= .ok u w'/\R F' g' w' v u/\St F' g' H' w'/\Bn F g H w F' g' H' w':=by
  intro Dv he;obtain⟨base,cap,Ij,Dv⟩:=Dv
  cases ys with
  |nil=>
   simp only[Id,Ay,Cg]at he;obtain⟨rfl,rfl⟩:=he;refine⟨s,w,F,g,?_,hr,hs,Bn.refl _ _ _ _⟩;subst Ij;have:news=[]:=by simpa using hl
   subst this
   exact A0b hA hS Aa
  |cons y ys=>
   simp only[Id,Ay,Cg]at he;obtain⟨rfl,rfl⟩:=he
   exact out e H.length _ base cap Ij (by simp;omega) Ab (fun _=>rfl) (fun y hy=>by
    rcases E8 y H.length with h|h
    . exact D5 h
    rw[Im (by simp;omega),Im h]) Ab Ab (.inl rfl)
 cases tok with
 |own t=>
  simp only at he;split at he
  . rename_i n k' e' hH;split at he
    . rename_i hnk;obtain⟨rfl,rfl⟩:=hnk;simp only[Ay,Cg]at he;obtain⟨rfl,rfl⟩:=he;have Nt:t<H.length:=(List.getElem?_eq_some_iff.1 hH).1;obtain⟨B,cap,vs,el,fr,b1,b2,b3,b4,b5,b6⟩:=hs.tok t _ _ _ hH;obtain⟨_,⟨_,_,h0,_⟩|⟨B',off,sp,cap',k',rfl,c1,c2,c3,m,c',c4,c5,c6⟩⟩:=L7 hr
      . exact absurd rfl (h0 t)
      rw[b2]at c4;cases c4;obtain⟨d1,d2,d3,d4⟩:=c6 rfl;simp only at d1 d2 d4;rw[b1]at d1;cases d1;subst d2;subst d3;subst d4;rcases E8 cap' (els.length+ys.length)with Af|Y6
      . refine out (if e'=e then e else 0) t _ _ _ rfl Af (Ks Nt) (by by_cases c:e'=e<;>simp[c]) (fun y hy=>Ia (Ib hy)) Ab (by simp;omega) (.inr (.inl ⟨_,_,b2,Aa,Nt⟩))
      obtain⟨w',r1,r2,r3,r4,r5⟩:=Boa (ty:=ty) hA hS (vs:=vs.toList) (by simpa using b3) Acf (by
       have:(els.length+ys.length)*i.size<=cap'*i.size:=qk _ Y6;rw[Pr]at this
       simp only[Ou]; omega) b4.1 Y6
      obtain⟨F',g',f0,f1,f2,f3,f4⟩:=A4i hs hH b1 b2 (vs:=vs.toList) (ty':=if e'=e then e else 0) (by by_cases c:e'=e<;>simp[c]; exact c▸b4.2.2.1) (by simpa using b3) (by simpa using b4.2.1) b4.1 Y6 hl b6 r2 r3 r4 r5;refine⟨_,w',F',g',r1,?_,f1,f2⟩;simp only[R,Po];refine⟨M6,.inr ⟨B,0,none,cap',i.size,rfl,Y6,⟨Nr,.inr rfl⟩,Ahn ?_ ?_,⟨_,_,f4,Bm _,fun _=>⟨f3,rfl,rfl,rfl⟩⟩⟩⟩
      . rcases Acj c3 Y8 with rfl|rfl
        . simp[RE]
        exact RE.mono f2.keeps _ _ _ _ c3
      refine fa uh (RL.mono f2.keeps _ _ hn) hc fun j u hj=>?_;have Sc:=(List.getElem?_eq_some_iff.1 hj).1;have hmul:(els.length+ys.length)*i.size=els.length*i.size+ys.length*i.size:=Pr _ _ _;have hcapk:(els.length+ys.length)*i.size<=cap'*i.size:=qk _ Y6;refine⟨?_,f0 _ Aa⟩;simp only[World.cell?,r3,Oz,Dp,Bq,Pt,Rl,Zw];have Qa:vs.toList.length=cap'*i.size:=by simpa using b4.2.1
      rw[Ow,Hj (by rw[eo]; omega),eo,Ahi Aa,D5 Aa];rw[show els.length*i.size+j-els.length*i.size=j by omega]; exact hj
    cases he
  cases he
 |tight=>
  exact small (by
   obtain⟨_,⟨rfl,rfl,h0,_⟩|⟨B',off,sp,cap',k',rfl,c1,c2,c3,c4⟩⟩:=L7 hr
   . exact⟨none,0,rfl,rfl⟩
   exact⟨_,_,rfl,c4⟩) he
 |nilT=>
  exact small (by
   obtain⟨_,⟨rfl,rfl,h0,_⟩|⟨B',off,sp,cap',k',rfl,c1,c2,c3,c4⟩⟩:=L7 hr
   . exact⟨none,0,rfl,rfl⟩
   exact c4.elim) he
 |none=>cases he
 |nn=>cases he
 |lazy t=>
  have Dv:s= .slice none els.length 0/\els.length=0:=by
   obtain⟨_,⟨rfl,rfl,h0,_⟩|⟨B',off,sp,cap',k',rfl,c1,c2,c3,c4⟩⟩:=L7 hr
   . exact⟨rfl,rfl⟩
   exact c4.elim
  cases ys with
  |nil=>
   simp only[Ay,Cg]at he;obtain⟨rfl,rfl⟩:=he;refine⟨s,w,F,g,?_,hr,hs,Bn.refl _ _ _ _⟩;have:news=[]:=by simpa using hl
   subst this;rw[Dv.1,Dv.2]
   exact A0b hA hS Aa
  |cons y ys=>
   simp only at he;split at he
   . rename_i ks hH;split at he
     . rename_i Um;simp only[Ay,Cg]at he;obtain⟨rfl,rfl⟩:=he;have Nt:t<H.length:=(List.getElem?_eq_some_iff.1 hH).1;rcases hs.mp t _ hH with⟨_,q1,q2⟩|⟨B,es,ck,_,_,_,hok⟩
       . exact out e t _ none 0 Dv.1 (by simp only[Gq]; omega) (Ks Nt) (fun _=>rfl) (fun y hy=>Ia (Ib hy)) Ab (by simp;omega) (.inr (.inr ⟨q1,q2⟩))
       have:=hok.lt Pa (by rw[Um]; simp[Kj]);omega
     cases he
   cases he
section
variable {H H':List HB} {t:List AV} {a:Act} {o:Oper} {v:AV} (hs:St F g H w) (ht:Tm F g w t a)
include hs ht
def Bcy{c:Call}{x x':Operand}{y y':AR}{u:TypeId}{d:TypeDesc}{z:Ao}(ho:o.op= .call c)(hb:c.callee= .builtin .append)(ha:c.args.toList=[x,x'])(hty:c.argTypes.toList=[ty,u])(h1:P.underlying ty=some (.slice e))(hd:(d matches .int _)=false)(h2:P.underlying u=some d)
 (hi:P.info? e=some i) (hz:N4 P e=some z) (hc:0<i.size/\z.length=i.size/\i.bytes<=1000) (hx:B9 x=some y) (hx':B9 x'=some y') (he:B4 (.append i.size e y y') (Bh t) H=some (v,H')):Cw P o a F g H w v H':=by
 have hr:=E2 ht hx;have Q9:=E2 ht hx';obtain⟨i',zv,q1,q2,q3⟩:=pq hz;rw[hi]at q1;cases q1;have Xt:=H5 (q3 F g w);simp only[Ou]at Xt;have hA:ee P c.argTypes e i:=⟨⟨ty,by rw[<- Mm,hty]; rfl,h1⟩,⟨u,d,by rw[<- Mm,hty]; rfl,h2,hd⟩,hi⟩;have tq:c.args= #[x,x']:=by apply L5;simpa using ha
 simp only[B4]at he;split at he
 . rename_i tok els tok' ys p1 p2;rw[p1]at hr;rw[p2]at Q9
   have hk:D3 i.size ys=true:=by
    unfold Ey at he;split at he
    . rename_i h;exact h.2.2
    cases he
   obtain⟨news,n1,n2,n3,n4,n5⟩:=A07 (P:=P) Q9 hk;obtain⟨r,w',F',g',e1,e2,e3,e4⟩:=Aid (ty:=o.type) hs hc.1 hr hA rfl hc.2.2 q2 Aa n1 n2 n3 n4 n5 he;exact⟨.value r,w',F',g',dn ho hb (args:=#[a.eval x,a.eval x']) (by simp[tq]) (dp _ _ _ e1),.inl ⟨r,rfl,e2⟩,e3,e4⟩
 cases he
def Bcz{c:Call}{x x':Operand}{y y':AR}{u:TypeId}{z:Ao}(ho:o.op= .call c)(hb:c.callee= .builtin .append)(ha:c.args.toList=[x,x'])(hty:c.argTypes.toList=[ty,u])(h1:P.underlying ty=some (.slice e))(h2:P.underlying u=some .string)
 (hi:P.info? e=some i) (hz:N4 P e=some z) (hc:i.size=1/\z.length=1/\i.bytes<=1000) (hx:B9 x=some y) (hx':B9 x'=some y') (he:B4 (.appendS e y y') (Bh t) H=some (v,H')):Cw P o a F g H w v H':=by
 have hr:=E2 ht hx;have Q9:=E2 ht hx';obtain⟨i',zv,q1,q2,q3⟩:=pq hz;rw[hi]at q1;cases q1;have Xt:=H5 (q3 F g w);simp only[Ou]at Xt;have hA:ee P c.argTypes e i:=⟨⟨ty,by rw[<- Mm,hty]; rfl,h1⟩,⟨u,.string,by rw[<- Mm,hty]; rfl,h2,rfl⟩,hi⟩;have tq:c.args= #[x,x']:=by apply L5;simpa using ha
 simp only[B4]at he;split at he
 . rename_i tok els s p1 p2;rw[p1]at hr;rw[p2]at Q9;obtain⟨news,n1,n2,n3,n4,n5⟩:=Bp5 (P:=P) Q9;obtain⟨r,w',F',g',e1,e2,e3,e4⟩:=Aid (ty:=o.type) hs Aa hr hA hc.1 hc.2.2 q2 Aa n1 n2 n3 n4 n5 he;exact⟨.value r,w',F',g',dn ho hb (args:=#[a.eval x,a.eval x']) (by simp[tq]) (dp _ _ _ e1),.inl ⟨r,rfl,e2⟩,e3,e4⟩
 cases he
end
end
end
section
def Ahw{F:Addr->Prop}{g:Gh}{w:World} :∀(l:List UInt8),RL F g w (l.map fun c=>[AV.int .u8 c.toNat]).flatten (l.map fun c=>Value.int .u8 c.toNat)
 | []=>by simp[RL]
 |c::l=>by
  simp only[F8,Tr,Gb,Gx,RL];exact⟨_,_,rfl,by simp only[R]; exact⟨trivial,by have:=c.toNat_lt;unfold IntKind.has IntKind.min IntKind.max IntKind.signed IntKind.bits;simp;omega⟩,Ahw l⟩
def Bb2{α:Type}(xs:Array α)(a:α)(f:α->α):(xs.push a).modify xs.size f=xs.push (f a):=by
 apply Array.ext
 . simp
 intro i h1 h2;simp only[Array.size_modify,Array.size_push]at h1;rw[Array.getElem_modify];rcases E8 i xs.size with h|h
 . rw[Ac Aa,A21 h,A21 h]
 have:i=xs.size:=by omega
 subst this;simp
def Boh(P:Program)(w:World)(cs:Array Value)(e:TypeId)(d:Nat):(markStringish ⟨w.heap.size,0,none⟩).run P {w with heap:=w.heap.push (.cells cs e),drawn:=d} = .ok () {w with heap:=w.heap.push (.cells cs e (cs.size,cs.size+1)),drawn:=d}:=by
 have Br:World.shape? {w with heap:=w.heap.push (.cells cs e),drawn:=d} w.heap.size=some (e,cs.size):=by
  simp[World.shape?]
 simp only[markStringish,Sem.run_bind,run_shape,Br,Result.andThen_ok,run_freeze,World.freeze];simp only[Nat.one_ne_zero,Bq];rw[Bb2];simp
section
variable {F:Addr->Prop} {g:Gh} {w:World} {P:Program} {H H':List HB} {t:List AV} {a:Act} {o:Oper} {v:AV} (hs:St F g H w) (ht:Tm F g w t a)
include hs
def Bc9{parts:Array (Nat×Operand)}(ho:o.op= .buildSlice ty 0 parts)(hp:parts.toList=[])(h1:P.underlying ty=some (.slice e))(hi:P.info? e=some i)(he:B4 .emptySl (Bh t) H=some (v,H')):Cw P o a F g H w v H':=by
 simp only[B4,Ay,Cg]at he;obtain⟨rfl,rfl⟩:=he;let w':World:={w with heap:=w.heap.push (.cells #[] e)};obtain⟨s1,s2⟩:=wn hs (ob:=.cells #[] e) (w':=w') rfl ⟨rfl,rfl⟩;have hp':parts= #[]:=by apply L5;simpa using hp
 refine⟨.value (.slice (some ⟨w.heap.size,0,none⟩) 0 0),w',_,g,?_,.inl ⟨_,rfl,?_⟩,s1,s2⟩
 . subst hp';simp only[execOp,ho,Instr.buildSlice,Sem.run_bind,Fq h1,Result.andThen_ok,Pg hi,ql,Ac (show ¬(0:Nat)>2^24 by decide),Bp,Sem.run_pure];have Xq:Array.range 0= #[]:=rfl;simp[Instr.fill,newRow,w',Xq]
 simp only[R];exact⟨Nl _,.inr ⟨_,_,_,0,1,rfl,Bm _,⟨Aa,.inr rfl⟩,by simp[RE],rfl⟩⟩
def Bea{n m:Int}{z:Ao}(ho:o.op= .makeSlice ty (.const (.int .i64 n)) (.const (.int .i64 m)))(h1:P.underlying ty=some (.slice e))(hi:P.info? e=some i)(h2:N4 P e=some z)
 (Cl:0<i.size/\z.length=i.size/\0<n/\n<=1000/\m=n/\i.bytes<=1000) (he:B4 (.makeSl i.size z n.toNat) (Bh t) H=some (v,H')):Cw P o a F g H w v H':=by
 obtain⟨z1,z2,z3,z4,rfl,z5⟩:=Cl;have h2':=h2;unfold N4 at h2';rw[hi]at h2';simp only at h2'
 cases hzv:i.zero with
 |none=>rw[hzv]at h2';cases h2'
 |some zv=>
  rw[hzv]at h2';simp only at h2';have hzR:RL F g w z zv.cells.toList:=o7 h2';have Xt:=H5 hzR;simp only[Ou]at Xt;simp only[B4,Ay,Cg]at he;obtain⟨rfl,rfl⟩:=he
  have Ok:∀n,RL F g w (List.replicate n z).flatten (List.replicate n zv.cells.toList).flatten:=by
   intro n
   induction n with
   |zero=>simp[RL]
   |succ n ih=>simp only[lq,Tr]; exact Ld hzR ih
  have Acu:∀n,(List.replicate n z).flatten.all AV.isCell=true:=by
   intro n
   induction n with
   |zero=>simp
   |succ n ih=>simp only[lq,Tr,Wm,Bb]; exact⟨Agn h2',ih⟩
  have hw:IntKind.i64.wrap m=m:=by unfold IntKind.wrap IntKind.signed IntKind.bits;simp;omega
  let w':World:={w with heap:=w.heap.push (.cells ((Array.range (m.toNat*i.size)).map (fun x=>zv.cells[x%zv.cells.size]!)) e)};obtain⟨s1,s2⟩:=wn hs (ob:=.cells ((Array.range (m.toNat*i.size)).map (fun x=>zv.cells[x%zv.cells.size]!)) e) (w':=w') rfl ⟨rfl,rfl⟩;refine⟨.value (.slice (some ⟨w.heap.size,0,none⟩) m.toNat m.toNat),w',_,g,?_,.inl ⟨_,rfl,?_⟩,s1,s2⟩
  . have hby:¬((i.bytes:Int)*m>2^48):=by
     have:(i.bytes:Int)*m<=1000*1000:=Int.mul_le_mul Aa z4 Aa Aa;omega
    have ba:¬m<0:=Aa;have hc:((decide (m<0)||decide ((i.bytes:Int)*m>2^48))||decide (m<0)||decide (m>m))=false:=by simp;omega
    have Aco:¬m.toNat*i.size=0:=by
     have:=Nat.mul_pos (show 0<m.toNat by omega) z1;omega
    simp only[execOp,ho,Instr.makeSlice,Act.eval,asInt,asIntOf,Sem.run_bind,Fq h1,Result.andThen_ok,xa hi,Sem.run_pure,hw,hc,Dp,Bq,run_askRoom,Pg hi,Ac Aco,kr hi hzv,newRow];rfl
  simp only[R,A3t];refine⟨by unfold A1;omega,.inr ⟨w.heap.size,0,none,m.toNat,i.size,rfl,Bm _,⟨z1,.inr rfl⟩,?_,rfl⟩⟩;refine fa (vs:=(List.replicate m.toNat zv.cells.toList).flatten) (fun r hr=>by rw[A3o hr]; exact z2) (RL.mono s2.keeps _ _ (Ok _)) (Acu _) fun j u hj=>⟨?_,.inr ⟨rfl,rfl⟩⟩;have hn:w'.heap[w.heap.size]? =some (.cells ((Array.range (m.toNat*i.size)).map (fun x=>zv.cells[x%zv.cells.size]!)) e):=X2 w _;simp only[World.cell?,hn,Oz,Dp,Bq,Pt];rw[<- Mm,A20 zv.cells i.size m.toNat Aa z1];exact hj
include ht
def Bc8{s d e:TypeId}{x:Operand}{y:AR}(ho:o.op= .convert s d x)(h1:P.underlying s=some .string)(h2:P.underlying d=some (.slice e))(h3:P.underlying e=some (.int .u8))(hx:B9 x=some y)(he:B4 (.convSB y) (Bh t) H=some (v,H')):Cw P o a F g H w v H':=by
 have hr:=E2 ht hx;simp only[B4]at he;split at he
 . rename_i l hl;simp only[Ay,Cg]at he;obtain⟨rfl,rfl⟩:=he;rw[hl]at hr;obtain⟨e1,e2⟩:=Wv hr;let cap:=(Question.appendCap l.length 0 e).cut (w.tape w.drawn (.appendCap l.length 0 e));have Dv:l.length<=cap:=by show _<=Question.cut _ _;simp only[Question.cut]; omega
   let cs:Array Value:=(l.toArray.map fun b=>Value.int .u8 b.toNat)++Array.replicate (cap-l.length) (.int .u8 0);let w':World:={w with drawn:=w.drawn+1,heap:=w.heap.push (.cells cs e (cs.size,cs.size+1))};obtain⟨s1,s2⟩:=wn hs (ob:=.cells cs e (cs.size,cs.size+1)) (w':=w') rfl ⟨rfl,rfl⟩;refine⟨.value (.slice (some ⟨w.heap.size,0,none⟩) l.length cap),w',_,g,?_,.inl ⟨_,rfl,?_⟩,s1,s2⟩
   . simp only[execOp,ho,convert,e1,Sem.run_bind,Fq h1,Fq h2,Fq h3,Result.andThen_ok,Conv.stringToBytes,run_choose,Question.forced,Dp,Bq,newRow,run_newObj,Sem.run_pure,Boh];rfl
   simp only[R,Qo];refine⟨e2,.inr ⟨w.heap.size,0,none,cap,1,rfl,Dv,⟨Aa,.inr rfl⟩,?_,trivial⟩⟩;refine fa (vs:=l.map fun c=>Value.int .u8 c.toNat) Ab ?_ (by simp[List.all_flatten,AV.isCell]) fun j u hj=>⟨?_,.inr ⟨rfl,rfl⟩⟩
   . exact Ahw l
   have hn:w'.heap[w.heap.size]? =some (.cells cs e (cs.size,cs.size+1)):=X2 w _;simp only[World.cell?,hn,Oz,Dp,Bq,Pt];have Sc:=(List.getElem?_eq_some_iff.1 hj).1;rw[<- Mm];simp only[cs,Wi,ld];rw[D5 (by simpa using Sc)];exact hj
 cases he
end
end
section
def Bnn{F:Addr->Prop}{g:Gh}{H:Ai}{w w':World}(hs:St F g H w)(hw:w'.heap=w.heap.push (.map #[] 0))(Kb:w'.os=w.os/\w'.output=w.output):
 ∃g',St F g' (H++[.mp []]) w'/\Bn F g H w F g' (H++[.mp []]) w'/\R F g' w' (.mapv H.length) (.map (some w.heap.size)):=by
 let g':Gh:=⟨fun b=>if b=H.length then some w.heap.size else g.blk b,g.tk⟩;have Af:∀b,b<w.heap.size->w'.heap[b]? =w.heap[b]?:=fun b hb=>by rw[hw]; exact X1 w _ b hb
 have hz:w'.heap.size=w.heap.size+1:=by rw[hw]; simp
 have Oi:w'.heap[w.heap.size]? =some (.map #[] 0):=by rw[hw]; exact X2 w _
 have hK:Fi F g w F g' w':=by
  refine⟨fun _ h=>h,fun a ha=>Oa (Af _ (hs.live a ha)),⟨fun b B h1 h2=>?_,fun t m c h=>⟨m,c,h,Bm _,fun _=>⟨rfl,?_⟩⟩⟩⟩
  . have:=hs.lt h1;exact⟨by show(if b=H.length then _ else _)=_;rw[Ac Aa]; exact h1,h2⟩
  have:t≠H.length:=fun e=>by have:=(hs.beyond t Aa).2;rw[this]at h;cases h
  show(if t=H.length then _ else _)=_;rw[Ac this]
 have old:∀(b:Nat) (x:HB),(H++[HB.mp []])[b]? =some x->(b<H.length/\H[b]? =some x)\/(b=H.length/\x= .mp []):=fun b x hb=>by
  rcases E8 b H.length with hl|hl
  . rw[D5 hl]at hb;exact .inl ⟨hl,hb⟩
  right
  rw[Hj hl]at hb
  have D8:b-H.length=0:=by
   rcases Nat.eq_zero_or_pos (b-H.length)with h|h
   . exact h
   rw[Im (by simp only[qe]; omega)]at hb;cases hb
  rw[D8]at hb;simp only[Tt,Ay]at hb;exact⟨Aa,hb.symm⟩
 have gb:∀b,b<H.length->g'.blk b=g.blk b:=fun b hb=>by show(if b=H.length then _ else _)=_;rw[Ac Aa]
 refine⟨g',⟨fun a ha=>?_,fun b hb=>?_,fun b b' B h1 h2=>?_,fun b cs' hb=>?_,fun t n k ty ht=>?_,hs.spots,fun b e' cs' hb=>?_,fun b ks hb=>?_⟩,⟨fun _ h=>h,hK.keep,hK.gh,?_,fun B hB _=>Af B hB,fun a h=>.inl h,fun b B hb h=>?_,Ab,Kb⟩,?_⟩
 . have:=hs.live a ha;omega
 . simp only[Po,qe]at hb;have:=hs.beyond b Aa;exact⟨by show(if b=H.length then _ else _)=_;rw[Ac Aa]; exact this.1,this.2⟩
 . have h1':(if b=H.length then some w.heap.size else g.blk b)=some B:=h1;have h2':(if b'=H.length then some w.heap.size else g.blk b')=some B:=h2;split at h1'<;>split at h2'
   . omega
   . simp only[Ay]at h1';have:=hs.blk_lt h2';omega
   . simp only[Ay]at h2';have:=hs.blk_lt h1';omega
   exact hs.inj b b' B h1' h2'
 . rcases old b _ hb with⟨hl,hb⟩|⟨_,h⟩
   . obtain⟨B,us,e',h1,h2,h3,h4,h5⟩:=hs.var b cs' hb;exact⟨B,us,e',(gb b hl).trans h1,h2,(Af B (D1 h3)).trans h3,RL.mono hK _ _ h4,h5⟩
   cases h
 . rcases old t _ ht with⟨hl,ht⟩|⟨_,h⟩
   . obtain⟨B,cap,us,e',fr,h1,h2,h3,h4,h5,h6⟩:=hs.tok t n k _ ht;exact⟨B,cap,us,e',fr,(gb t hl).trans h1,h2,(Af B (D1 h3)).trans h3,h4,h5,h6⟩
   cases h
 . rcases old b _ hb with⟨hl,hb⟩|⟨_,h⟩
   . obtain⟨B,us,h1,h2,h3,h4,h5⟩:=hs.tvar b e' cs' hb;exact⟨B,us,(gb b hl).trans h1,h2,(Af B (D1 h3)).trans h3,RL.mono hK _ _ h4,h5⟩
   cases h
 . rcases old b _ hb with⟨hl,hb⟩|⟨rfl,h⟩
   . rcases hs.mp b _ hb with⟨h0,h1,h2⟩|⟨B,es,ck,h1,h2,h3,h4⟩
     . exact .inl ⟨h0,(gb b hl).trans h1,h2⟩
     exact .inr ⟨B,es,ck,(gb b hl).trans h1,h2,(Af B (D1 h3)).trans h3,h4⟩
   cases h;refine .inr ⟨w.heap.size,#[],0,?_,(hs.beyond _ (Bm _)).2,Oi,⟨Go.MapKept.stamped_empty 0,Ab,Ab⟩⟩;show(if H.length=H.length then _ else _)=_;rw[Ae rfl]
 . omega
 . have h':(if b=H.length then some w.heap.size else g.blk b)=some B:=h;split at h'
   . simp only[Ay]at h';right;omega
   left;exact⟨hs.lt h',h'⟩
 simp only[R];refine⟨w.heap.size,?_,(hs.beyond _ (Bm _)).2,rfl⟩;show(if H.length=H.length then _ else _)=_;rw[Ae rfl]
def Bns{F:Addr->Prop}{g:Gh}{H:Ai}{w w':World}(hs:St F g H w){b B:Nat}{es es':Array MapEntry}{ck ck':Nat}{ks ks':Ck}(hb:H[b]? =some (.mp ks))(hB:g.blk b=some B)(h0:w.heap[B]? =some (.map es ck))
 (hz:w'.heap.size=w.heap.size) (hn:w'.heap[B]? =some (.map es' ck')) (hok:Rp es' ck' ks') (ho:∀x,x≠B->w'.heap[x]? =w.heap[x]?) (Kb:w'.os=w.os/\w'.output=w.output):
 St F g (H.set b (.mp ks')) w'/\Bn F g H w F g (H.set b (.mp ks')) w':=by
 have D8:=hs.lt hB
 have hK:Fi F g w F g w':=⟨fun _ h=>h,fun a ha=>by
  by_cases e:a.block=B
  . simp only[World.cell?,e,h0,hn]
  exact Oa (ho _ e),Gh.le_refl g⟩
 have other:∀(x:Nat) (y:HB),(H.set b (.mp ks'))[x]? =some y->(x=b/\y= .mp ks')\/(x≠b/\H[x]? =some y):=fun x y h=>by
  by_cases e:x=b
  . subst e;rw[Ks D8]at h;cases h;exact .inl ⟨rfl,rfl⟩
  rw[Ia (Ib e)]at h;exact .inr ⟨e,h⟩
 refine⟨⟨fun a ha=>by rw[hz]; exact hs.live a ha,fun x hx=>hs.beyond x (by simpa using hx),hs.inj,fun x cx hx=>?_,fun t n k ty ht=>?_,hs.spots,fun x ex cx hx=>?_,fun x kx hx=>?_⟩,⟨fun _ h=>h,hK.keep,hK.gh,Aa,fun x hx Q7=>ho x (fun e=>Q7 b D8 (by rw[hB,e])),fun a h=>.inl h,fun x X hx h=>.inl ⟨by simpa using hx,h⟩,Ab,Kb⟩⟩
 . rcases other x _ hx with⟨_,h⟩|⟨Bg,hx⟩
   . cases h
   obtain⟨X,us,ex,h1,h2,h3,h4,h5⟩:=hs.var x cx hx;have:X≠B:=fun e=>Bg (hs.inj x b X h1 (by rw[hB,e]));exact⟨X,us,ex,h1,h2,(ho X this).trans h3,RL.mono hK _ _ h4,h5⟩
 . rcases other t _ ht with⟨_,h⟩|⟨Bg,ht⟩
   . cases h
   obtain⟨X,cap,us,ex,fr,h1,h2,h3,h4,h5,h6⟩:=hs.tok t n k _ ht;have:X≠B:=fun e=>Bg (hs.inj t b X h1 (by rw[hB,e]));exact⟨X,cap,us,ex,fr,h1,h2,(ho X this).trans h3,h4,h5,h6⟩
 . rcases other x _ hx with⟨_,h⟩|⟨Bg,hx⟩
   . cases h
   obtain⟨X,us,h1,h2,h3,h4,h5⟩:=hs.tvar x ex cx hx;have:X≠B:=fun e=>Bg (hs.inj x b X h1 (by rw[hB,e]));exact⟨X,us,h1,h2,(ho X this).trans h3,RL.mono hK _ _ h4,h5⟩
 rcases other x _ hx with⟨rfl,h⟩|⟨Bg,hx⟩
 . cases h;exact .inr ⟨B,es',ck',hB,by
    rcases hs.mp x _ hb with⟨_,_,h2⟩|⟨X,es2,ck2,h1,h2,h3,h4⟩
    . exact h2
    exact h2,hn,hok⟩
 rcases hs.mp x _ hx with q|⟨X,es2,ck2,h1,h2,h3,h4⟩
 . exact .inl q
 have:X≠B:=fun e=>Bg (hs.inj x b X h1 (by rw[hB,e]));exact .inr ⟨X,es2,ck2,h1,h2,(ho X this).trans h3,h4⟩
def A30{F:Addr->Prop}{g:Gh}{w:World}{b:Nat}{v:Value}(h:R F g w (.mapv b) v):∃B,g.blk b=some B/\v= .map (some B):=by
 simp only[R]at h;obtain⟨B,h1,_,h2⟩:=h;exact⟨B,h1,h2⟩
section
variable {F:Addr->Prop} {g:Gh} {w:World} {P:Program} {H H':List HB} {t:List AV} {a:Act} {o:Oper} {v:AV} (hs:St F g H w) (ht:Tm F g w t a)
include hs
def Beg(ho:o.op= .makeMap ty none)(he:B4 .mkmap (Bh t) H=some (v,H')):Cw P o a F g H w v H':=by
 simp only[B4,Ay,Cg]at he;obtain⟨rfl,rfl⟩:=he;obtain⟨g',e1,e2,e3⟩:=Bnn hs (w':=w.alloc (.map #[] 0)) rfl ⟨rfl,rfl⟩;refine⟨.value (.map (some w.heap.size)),_,F,g',?_,.inl ⟨_,rfl,e3⟩,e1,e2⟩;simp only[execOp,ho,Option.map_none,Sem.run_bind,show(Instr.makeMap ty none).run P w= .ok (.map (some w.heap.size)) (w.alloc (.map #[] 0))from rfl,Result.andThen_ok,Sem.run_pure]
include ht
def Beb{m k x:Operand}{m' k':AR}(ho:o.op= .mapUpdate ty m k x)(hty:uu P ty=true)(hm:B9 m=some m')(hk:B9 k=some k')(he:B4 (.mapset m' k') (Bh t) H=some (v,H')):Cw P o a F g H w v H':=by
 obtain⟨kt,et,u1,u2⟩:∃kt et,P.underlying ty=some (.map kt et)/\P.underlying kt=some (.int .i64):=by
  unfold uu at hty;split at hty
  . rename_i kt et h1;split at hty
    . rename_i h2;exact⟨_,_,h1,h2⟩
    cases hty
  cases hty
 have hrm:=E2 ht hm;have hrk:=E2 ht hk;simp only[B4]at he;split at he
 . rename_i b n q1 q2;rw[q1]at hrm;rw[q2]at hrk;split at he
   . rename_i ks hb;split at he
     . rename_i hn;simp only[Ay,Cg]at he;obtain⟨rfl,rfl⟩:=he;obtain⟨B,hB,hvm⟩:=A30 hrm
       obtain⟨B',es,ck,p1,p2,p3,p4⟩:∃B es ck,g.blk b=some B/\g.tk b=none/\w.heap[B]? =some (.map es ck)/\Rp es ck ks:=by
        rcases hs.mp b _ hb with⟨_,q,_⟩|q
        . rw[hB]at q;cases q
        exact q
       rw[hB]at p1;cases p1;simp only[R]at hrk;obtain⟨hvk,_⟩:=hrk;have iz:Go.MapKept.IsKey (.int .i64) (.int .i64 n):=rfl
       have Un:∀k:Nat,k∈ks↔∃x∈es.toList,x.key= .int .i64 k:=fun k=>by
        constructor
        . intro hk;have:(Value.int .i64 k)∈es.toList.map (·.key):=by rw[p4.key]; exact List.mem_map.2 ⟨k,hk,rfl⟩
          exact List.mem_map.1 this
        rintro⟨x,hx,e⟩;have:x.key∈ks.map (fun n:Nat=>Value.int .i64 n):=by rw[<- p4.key]; exact List.mem_map.2 ⟨x,hx,rfl⟩
        obtain⟨k',J0,e'⟩:=List.mem_map.1 this;rw[e]at e';simp only[Value.int.injEq,L1]at e';rw[show k=k' by omega]; exact J0
       have Um:∀x∈es.toList,Go.MapKept.IsKey (.int .i64) x.key:=fun x hx=>by
        have:x.key∈ks.map (fun n:Nat=>Value.int .i64 n):=by rw[<- p4.key]; exact List.mem_map.2 ⟨x,hx,rfl⟩
        obtain⟨k',J0,e'⟩:=List.mem_map.1 this;rw[<- e']; rfl
       obtain⟨m,rfl⟩:∃m:Nat,n=m:=⟨n.toNat,(yc hn.1).symm⟩;have hm:m<Pa:=by have:=hn.2;omega
       simp only[p8]
       have Xr:∃w2,(Instr.mapUpdate ty (.map (some B)) (.int .i64 m) (a.eval x)).run P w= .ok () w2/\w2.heap.size=w.heap.size/\(∃ es' ck',w2.heap[B]? =some (.map es' ck')/\Rp es' ck' (T0 m ks))/\(∀ x,x≠B->w2.heap[x]? =w.heap[x]?)/\w2.os=w.os/\w2.output=w.output:=by
        rcases Go.MapKept.findNow_spec iz es.toList 0 Um with⟨h1,h2⟩|⟨j,e,h1,h2,h3⟩
        . have jb:m∉ks:=fun h=>by
           obtain⟨x,hx,e⟩:=(Un m).1 h;exact h2 x hx e
          refine⟨{w with heap:=w.heap.setIfInBounds B (.map (es.push {key:=.int .i64 m,val:=a.eval x,born:=ck}) (ck+1))},by simp only[Instr.mapUpdate,Sem.run_bind,Fq u1,Result.andThen_ok,Go.MapKept.run_getObj_map p3,Go.MapKept.run_checkKey u2 iz,Go.MapKept.run_findKey u2 h1,Go.MapKept.run_setObj_map _ p3],Ab,⟨_,_,(Go.MapKept.heap_set p3).1,⟨Go.MapKept.stamped_push p4.stamped h2,?_,fun y hy=>?_⟩⟩,fun r' Bg=>(Go.MapKept.heap_set p3).2 r' Bg,rfl,rfl⟩
          . simp[T0,jb,p4.key]
          simp only[T0,jb,Bq,er,y6]at hy;rcases hy with hy|rfl
          . exact p4.lt y hy
          exact hm
        have hj:es[j]? =some e:=by simpa using h2
        have Sb:m∈ks:=(Un m).2 ⟨e,Sr h2,h3⟩;have At8:∀e',es[j]? =some e'->({e' with key:=.int .i64 m,val:=a.eval x} :MapEntry).key=e'.key:=fun e' he'=>by rw[hj]at he';cases he';exact h3.symm
        have hadd:T0 m ks=ks:=by simp[T0,Sb]
        refine⟨{w with heap:=w.heap.setIfInBounds B (.map (es.modify j fun e=>{e with key:=.int .i64 m,val:=a.eval x}) ck)},by simp only[Instr.mapUpdate,Sem.run_bind,Fq u1,Result.andThen_ok,Go.MapKept.run_getObj_map p3,Go.MapKept.run_checkKey u2 iz,Go.MapKept.run_findKey u2 h1,Pt,hj,Tx,lu,h3,Go.MapKept.run_keyThatStays iz,Go.MapKept.run_setObj_map _ p3],Ab,⟨_,_,(Go.MapKept.heap_set p3).1,⟨Go.MapKept.stamped_modify p4.stamped _ _ (fun _ _=>rfl) (fun e' _ he'=>At8 e' he'),?_,by rw[hadd]; exact p4.lt⟩⟩,fun r' Bg=>(Go.MapKept.heap_set p3).2 r' Bg,rfl,rfl⟩;rw[hadd,<-p4.key];exact Go.MapKept.modify_keys j _ At8
       obtain⟨w2,r1,r2,⟨es',ck',r3,r4⟩,r5,r6⟩:=Xr;obtain⟨s1,s2⟩:=Bns hs hb hB p3 r2 r3 r4 r5 r6;refine⟨.skip,w2,F,g,?_,.inr ⟨rfl,rfl⟩,s1,s2⟩;simp only[execOp,ho,hvm,hvk];exact run_u _ _ r1
     cases he
   cases he
 cases he
end
end
section
section
variable {F:Addr->Prop} {g:Gh} {w:World} {P:Program} {H H':List HB} {t:List AV} {a:Act} {o:Oper} {v:AV}
def Bp7(hs:St F g H w)(ht:Tm F g w t a){ao:Ek}(hc:Vm P o.op=some ao)(he:B4 ao (Bh t) H=some (v,H')):Cw P o a F g H w v H':=by
 cases hop:o.op<;>rw[hop]at hc<;>simp only[Vm]at hc<;>try(cases hc;done)
 case move x=>
  simp only[Ef]at hc;obtain⟨y,hy,rfl⟩:=hc;exact Awv hs ht (.inl hop) hy he
 case assign x=>
  simp only[Ef]at hc;obtain⟨y,hy,rfl⟩:=hc;exact Awv hs ht (.inr hop) hy he
 case pick c x x'=>
  split at hc
  . rename_i h1 h2 h3;simp only[Ay]at hc;subst hc;exact Ber hs ht hop h1 h2 h3 he
  cases hc
 case alloc ty=>
  simp only[Ef]at hc;obtain⟨z,hz,rfl⟩:=hc;exact Bcx hs hop hz he
 case box ty x=>
  split at hc
  . simp only[Ef]at hc;obtain⟨z,hz,rfl⟩:=hc;exact Bc3 hs ht hop hz he
  simp only[Ef]at hc;obtain⟨z,hz,rfl⟩:=hc;exact Bc2 hs ht hop hz he
 case build ty parts=>
  split at hc
  . rename_i h1 h2;split at hc
    . rename_i h3;simp only[Ef]at hc;obtain⟨ps,hps,rfl⟩:=hc;exact Bc4 hs ht hop h1 h2 h3 hps he
    cases hc
  cases hc
 case buildSlice ty len parts=>
  split at hc
  . rename_i h1;split at hc
    . rename_i h2 h3 h4;split at hc
      . rename_i h5;simp only[Ay]at hc;subst hc;exact Bc5 hs ht hop h1 h2 h3 h4 h5 he
      split at hc
      . rename_i h5;obtain⟨rfl,h6⟩:=h5;simp only[Ay]at hc;subst hc;exact Bc9 hs hop h6 h1 h2 he
      cases hc
    cases hc
  cases hc
 case load ty x=>
  split at hc
  . rename_i h1 h2 h3;split at hc
    . rename_i h4;simp only[Ay]at hc;subst hc;exact Bd9 hs ht hop h1 h2 h3 h4 he
    cases hc
  cases hc
 case store ty p x=>
  split at hc
  . rename_i h1 h2 h3;split at hc
    . simp only[Ay]at hc;subst hc;exact Bi5 hs ht hop h1 h2 h3 he
    cases hc
  cases hc
 case nilCheck x=>
  simp only[Ef]at hc;obtain⟨z,hz,rfl⟩:=hc;exact Beh hs ht hop hz he
 case binOp op ty x y yt=>
  split at hc
  . rename_i hq;split at hc
    . rename_i c h1;simp only[Ef]at hc;obtain⟨z,hz,rfl⟩:=hc;exact Bc1 hs ht hop hq h1 hz he
    split at hc
    . rename_i hb;split at hc
      . rename_i h1 h2;simp only[Ay]at hc;subst hc;refine Bc0 hs ht hop hq ?_ h1 h2 he;unfold Aur at hb;split at hb
        . assumption
        cases hb
      cases hc
    split at hc
    . rename_i h1 h2;simp only[Ay]at hc;subst hc;exact Awp hs ht hop h1 h2 he
    cases hc
  split at hc
  . rename_i h1 h2;simp only[Ay]at hc;subst hc;exact Awp hs ht hop h1 h2 he
  cases hc
 case unOp op ty x=>
  simp only[Ef]at hc;obtain⟨z,hz,rfl⟩:=hc;exact ok_un hs ht hop hz he
 case convert s d x=>
  split at hc
  . rename_i h1 h2 h3;simp only[Ay]at hc;subst hc;exact Bc6 hs ht hop h1 h2 h3 he
  . rename_i h1 h2 h3;simp only[Ay]at hc;subst hc;exact Bc7 hs ht hop h1 h2 h3 he
  . rename_i h1 h2 h3;split at hc
    . rename_i h4;simp only[Ay]at hc;subst hc;exact Bc8 hs ht hop h1 h2 h4 h3 he
    cases hc
  cases hc
 case makeSlice ty l c=>
  unfold sf at hc;split at hc<;>try(cases hc;done)
  split at hc
  . rename_i h1;split at hc
    . rename_i h2 h3;split at hc
      . rename_i h4;simp only[Ay]at hc;subst hc;exact Bea hs hop h1 h2 h3 h4 he
      cases hc
    cases hc
  cases hc
 case makeMap ty r=>
  split at hc
  . split at hc
    . simp only[Ay]at hc;subst hc;exact Beg hs hop he
    cases hc
  cases hc
 case mapUpdate ty m k x=>
  split at hc
  . rename_i h0;split at hc
    . rename_i h1 h2;simp only[Ay]at hc;subst hc;exact Beb hs ht hop h0 h1 h2 he
    cases hc
  cases hc
 case makeInterface ty x=>
  split at hc
  . cases hc
  . cases hc
  rename_i d hn h1;simp only[Ef]at hc;obtain⟨z,hz,rfl⟩:=hc;refine Bef hs ht hop h1 (fun ms e=>?_) hz he;subst e;exact hn ms rfl
 case makeFunc f first cap=>
  split at hc
  . rename_i h1 h2;simp only[Ay]at hc;subst hc;exact Bee hs ht hop h1 h2 he
  cases hc
 case slice ty x lo hi mx=>
  split at hc
  . rename_i e x' lo' Fa mx' h1 h2 h3 h4 h5;split at hc
    . rename_i i Fa;simp only[Ay]at hc;subst hc;exact Bim hs ht hop h1 Fa h2 h3 h4 h5 he
    cases hc
  . rename_i x' lo' Fa h1 h2 h3 h4 h5;simp only[Ay]at hc;subst hc
    cases mx with
    |none=>exact Bi4 hs ht hop h1 h2 h3 h4 he
    |some m=>simp only[Sz,Ef]at h5;obtain⟨_,_,h⟩:=h5;cases h
  cases hc
 case fieldAddr s x f=>
  split at hc
  . rename_i h1 h2;split at hc
    . rename_i h3;split at hc
      . rename_i h4;split at hc
        . rename_i h5;simp only[Ay]at hc;subst hc;exact Bdl hs ht hop h1 h3 h4 h5 h2 he
        cases hc
      cases hc
    cases hc
  cases hc
 case indexAddr ty x ix=>
  split at hc
  . rename_i h1 h2 h3;split at hc
    . rename_i h4;split at hc
      . rename_i h5;simp only[Ay]at hc;subst hc;exact Bdn hs ht hop h1 h4 h5 h2 h3 he
      cases hc
    cases hc
  cases hc
 case index ty x ix=>
  split at hc
  . rename_i h1 h2 h3;simp only[Ay]at hc;subst hc;exact Bik hs ht hop h1 h2 h3 he
  cases hc
 case field ty x f=>
  split at hc
  . rename_i h1 h2;split at hc
    . rename_i h3;split at hc
      . rename_i h4 h5;split at hc
        . rename_i h6;simp only[Ay]at hc;subst hc;exact Bdm hs ht hop h1 h3 h4 h5 h2 h6 he
        cases hc
      cases hc
    cases hc
  cases hc
 case extract x n=>
  simp only[Ef]at hc;obtain⟨z,hz,rfl⟩:=hc;exact Bdk hs ht hop hz he
 case call c=>
  unfold sd at hc;split at hc
  . split at hc
    . simp only[Ay]at hc;subst hc;simp[B4]at he
    cases hc
  . cases hc
  rename_i b hb;split at hc
  . rename_i x ty r ha hty;split at hc
    . rename_i h1;simp only[Ef]at hc;obtain⟨z,hz,rfl⟩:=hc;exact Bil hs ht hop hb ha hty h1 hz he
    . rename_i e h1;simp only[Ef]at hc;obtain⟨z,hz,rfl⟩:=hc;exact Bd1 hs ht hop hb ha hty h1 hz he
    cases hc
  . simp only[Ef]at hc;obtain⟨z,hz,rfl⟩:=hc;exact Bed hs ht hop hb hz he
  . simp only[Ef]at hc;obtain⟨z,hz,rfl⟩:=hc;exact Bec hs ht hop hb hz he
  . rename_i x y ty u ha hty;split at hc
    . rename_i h1 h2 h3 h4;split at hc
      . rename_i h5 h6;split at hc
        . rename_i h7;simp only[Ay]at hc;subst hc;exact Bcy hs ht hop hb ha hty h1 rfl h2 h5 h6 h7 h3 h4 he
        cases hc
      cases hc
    . rename_i h1 h2 h3 h4;split at hc
      . rename_i h5 h6;split at hc
        . rename_i h7;simp only[Ay]at hc;subst hc;exact Bcz hs ht hop hb ha hty h1 h2 h5 h6 h7 h3 h4 he
        cases hc
      cases hc
    cases hc
  cases hc
end
end
section
def Qw(P:Program)(f:FuncId):Bool:=
 match P.funcs[f]? with
 |some fn=>fn.name != "runtime.NumGoroutine" &&fn.body.isSome
 |none=>false
def rq(c:Nat):Bool:=c==32||(9<=c&&c<=13)
structure Ja (P:Program) (F:Addr->Prop) (w:World):Prop where
 rng:F ⟨ii,0,none⟩/\∃te pe,w.cell? ⟨ii,0,none⟩=some (.iface te pe)
 asc:∀c:Nat,c<256->F ⟨ig,c,none⟩/\w.cell? ⟨ig,c,none⟩=some (.int .u8 (if rq c then 1 else 0))
 mxl:F ⟨ti,0,none⟩/\∃m,w.cell? ⟨ti,0,none⟩=some (.int .i64 m)
def Ja.mono{P:Program}{F F':Addr->Prop}{g g':Gh}{w w':World}(h:Ja P F w)(K:Fi F g w F' g' w'):Ja P F' w' where
 rng:=by
  obtain⟨h1,te,pe,h2⟩:=h.rng;exact⟨K.sub _ h1,te,pe,(K.keep _ h1).trans h2⟩
 asc c hc:=by
  obtain⟨h1,h2⟩:=h.asc c hc;exact⟨K.sub _ h1,(K.keep _ h1).trans h2⟩
 mxl:=by
  obtain⟨h1,m,h2⟩:=h.mxl;exact⟨K.sub _ h1,m,(K.keep _ h1).trans h2⟩
def C7(P:Program)(f:FuncId)(args:List AV)(H:List HB)(res:AV)(H':List HB):Prop:=
 Qw P f=true/\∀F g w vs,Ja P F w->St F g H w->RL F g w args vs->
  Calls P f vs.toArray w fun e w'=>∃v F' g',e= .returned v/\R F' g' w' res v/\St F' g' H' w'/\Bn F g H w F' g' H' w'
inductive Out where
 |res (v:AV)
 |pan (v:AV)
def N6(P:Program)(f:FuncId)(args:List AV)(H:List HB)(Q:Out->List HB->Prop):Prop:=
 Qw P f=true/\∀F g w vs,Ja P F w->St F g H w->RL F g w args vs->
  Calls P f vs.toArray w fun e w'=>∃o H' F' g',Q o H'/\St F' g' H' w'/\Bn F g H w F' g' H' w'/\match o with
   | .res v=>∃u,e= .returned u/\R F' g' w' v u
   | .pan v=>∃u,e= .panicked [{v:=u,recovered:=false}]/\R F' g' w' v u
def C7.any{P:Program}{args:Ao}{H H':Ai}{v:AV}(h:C7 P f args H v H'):N6 P f args H fun o K=>o= .res v/\K=H':=
 ⟨h.1,fun F g w vs hG hs hr=>(h.2 F g w vs hG hs hr).mono fun _ _ ⟨u,F',g',e1,e2,e3,e4⟩=>⟨.res v,H',F',g',⟨rfl,rfl⟩,e3,e4,u,e1,e2⟩⟩
def N6.mono{P:Program}{args:Ao}{H:Ai}{Q Q':Out->Ai->Prop}(h:N6 P f args H Q)(hq:∀o K,Q o K->Q' o K):N6 P f args H Q':=
 ⟨h.1,fun F g w vs hG hs hr=>(h.2 F g w vs hG hs hr).mono fun _ _ ⟨o,H',F',g',e1,e2⟩=>⟨o,H',F',g',hq _ _ e1,e2⟩⟩
class D6 where
 pk:AV->List HB->Prop
instance noPan:D6:=⟨fun _ _=>False⟩
def Yc[D6](P:Program)(f:FuncId)(args:List AV)(H:List HB)(res:AV)(H':List HB):Prop:=
 N6 P f args H fun o K=>(o= .res res/\K=H')\/∃v,o= .pan v/\D6.pk v K
def C7.res[D6]{P:Program}{args:Ao}{H H':Ai}{v:AV}(h:C7 P f args H v H'):Yc P f args H v H':=h.any.mono fun _ _ h=>.inl h
section
variable [D6]
def E1(P:Program)(op:Ek)(ρ:AR->AV)(H:List HB)(v:AV)(H':List HB):Prop:=
 match op with
 | .call f args=>∃n first cap,ρ f= .fn (.func n) first cap/\Yc P n (first ++args.map ρ++cap) H v H'
 |op=>B4 op ρ H=some (v,H')
def Kt(ds:List Deferred)(F:Addr->Prop)(g:Gh)(H:List HB)(w:World)(Q:Exit->Act->World->Prop):Prop:=
 ∀F' g' H' w' a' v u,R F' g' w' v u->St F' g' H' w'->Bn F g H w F' g' H' w'->a'.defers=ds->D6.pk v H'->Q (.panic [{v:=u,recovered:=false}]) a' w'
def Kt.ext{F:Addr->Prop}{g:Gh}{H:Ai}{w:World}(h:Kt ds F g H w Q){F':Addr->Prop}{g':Gh}{H':Ai}{w':World}(hx:Bn F g H w F' g' H' w'):Kt ds F' g' H' w' Q:=
 fun F2 g2 H2 w2 a2 v u h1 h2 h3 h4 h5=>h F2 g2 H2 w2 a2 v u h1 h2 (hx.trans h3) h4 h5
def Cd(t:List AV)(dst:Option Nat)(v:AV):List AV:=match dst with |some d=>t.set d v|none=>t
section
variable {F:Addr->Prop} {g:Gh} {w:World} {P:Program}
def Tm.mono{F':Addr->Prop}{g':Gh}{w':World}(K:Fi F g w F' g' w'){t:Ao}{a:Act}(h:Tm F g w t a):Tm F' g' w' t a:=RL.mono K _ _ h
def Tm.put{t:Ao}{a:Act}(h:Tm F g w t a){v:AV}{u:Value}(hv:R F g w v u)(dst:Option Nat):Tm F g w (Cd t dst v) (a.put dst u):=by
 cases dst with
 |none=>exact h
 |some d=>
  have:=Vh h hv d;simpa[Tm,Cd,Act.put]using this
def ru(h:Qw P f=true)(args:Array Value):(callFunc f args).run P w= .ok (.enter f args) w:=by
 unfold Qw at h
 cases hf:P.funcs[f]? with
 |none=>rw[hf]at h;cases h
 |some fn=>
  rw[hf]at h;simp only[Bb,bne_iff_ne,Nc]at h
  have h2:fn.body.isNone=false:=by
   cases hb:fn.body with
   |none=>rw[hb]at h;simp at h
   |some _=>rfl
  simp only[callFunc,Sem.run_bind,run_program,Result.andThen_ok,hf];have h1:(fn.name == "runtime.NumGoroutine")=false:=by simpa using h.1
  simp only[h1,Dp,Bq,h2];rfl
def U4{H H':Ai}{t:Ao}{a:Act}{o:Oper}{v:AV}(hG:Ja P F w)(hs:St F g H w)(ht:Tm F g w t a){ao:Ek}(hc:Vm P o.op=some ao)(he:E1 P ao (Bh t) H v H')
 {K:Act->World->Prop}  (hK:∀w' F' g' u,R F' g' w' v u->St F' g' H' w'->Bn F g H w F' g' H' w'->K (a.put o.dst u) w')  (O6:a.defers=ds) (hP:Kt ds F g H w Q):o.wp P a w K Q:=by
 by_cases hcall:∃f args,ao= .call f args
 . obtain⟨f,args,rfl⟩:=hcall;obtain⟨n,first,cap,hf,Xn,A9s⟩:=he
   have hop:∃c fo,o.op= .call c/\c.callee= .value fo/\B9 fo=some f/\Qv c.args.toList=some args:=by
    cases hop:o.op<;>rw[hop]at hc<;>simp only[Vm]at hc<;>try(first |(cases hc;done)|(simp only[Ef]at hc;obtain⟨_,_,hx⟩:=hc;cases hx;done)|(repeat' (split at hc))<;>first |(cases hc;done)|(simp only[Ef]at hc;obtain⟨_,_,hx⟩:=hc;cases hx;done))
    case makeSlice=>
     unfold sf at hc
     (repeat' (split at hc))<;>cases hc
    case call c=>
     unfold sd at hc;split at hc
     . rename_i fo hfo;split at hc
       . rename_i h1 h2;simp only[Ay,Ek.call.injEq]at hc;obtain⟨rfl,rfl⟩:=hc;exact⟨c,fo,rfl,hfo,h1,h2⟩
       cases hc
     . cases hc
     (repeat' (split at hc))<;>first |(cases hc;done)|(simp only[Ef]at hc;obtain⟨_,_,hx⟩:=hc;cases hx;done)
   obtain⟨c,fo,h1,h2,h3,h4⟩:=hop;have hrf:=E2 ht h3;rw[hf]at hrf;obtain⟨a1,a2,e1,e2,e3⟩:=fb hrf;have hra:=fi ht h4;have Kz:=Ld (Ld e2 hra) e3;have En:=A9s F g w _ hG hs Kz
   have Xr:(execOp a.eval o).run P w= .ok (.enter n (a1.toList++c.args.toList.map a.eval++a2.toList).toArray) w:=by
    simp only[execOp,h1,resolve,h2,e1,Deferred.ofValue,Sem.run_bind,Sem.run_pure,Result.andThen_ok,invoke,ru Xn];congr 2;apply L5;simp
   unfold Oper.wp;rw[Xr,Oper.upon_enter];refine En.mono fun e w' ⟨x,H2,F',g',hq,r2,r3,ho⟩=>?_;rcases hq with⟨rfl,rfl⟩|⟨pv,rfl,hq⟩
   . obtain⟨u,rfl,r1⟩:=ho;exact hK w' F' g' u r1 r2 r3
   obtain⟨u,rfl,r1⟩:=ho;exact hP F' g' H2 w' a pv u r1 r2 r3 O6 hq
 have he':B4 ao (Bh t) H=some (v,H'):=by
  cases ao<;>first |exact he|(exact absurd ⟨_,_,rfl⟩ hcall)
 obtain⟨r,w',F',g',h1,h2,h3,h4⟩:=Bp7 hs ht hc he';unfold Oper.wp;rw[h1];rcases h2 with⟨u,rfl,h2⟩|⟨rfl,rfl⟩
 . rw[Oper.upon_value]; exact hK w' F' g' u h2 h3 h4
 rw[Oper.upon_skip]; exact hK w' F' g' undef Hk h3 h4
def AV.no:AV:=.int .u8 300
def qu{u:Value}(h:R F g w .no u):False:=by
 simp only[AV.no,R]at h;have h2:=h.2;unfold IntKind.has IntKind.min IntKind.max IntKind.signed IntKind.bits at h2;simp at h2
def It(t:List AV):Option (Nat×Bool)->Bool
 |none=>true
 |some (d,want)=>match t[d]? with
  |some (.bool b)=>b==want
  |_=>false
def se(ops:Array Oper):Option (Nat×Bool)->Option (Option (Nat×Bool))
 |none=>some none
 |some (j,want)=>match(ops[j]?).bind (·.dst)with
  |some d=>some (some (d,want))
  |none=>none
def ah{t:Ao}{a:Act}(ht:Tm F g w t a){o:Oper}{gd:Option (Nat×Bool)}(h:se ops o.guard=some gd):Region.wanted o (yielded ops a.tmps)=It t gd:=by
 unfold Region.wanted
 cases hg:o.guard with
 |none=>rw[hg]at h;simp only[se,Ay]at h;subst h;rfl
 |some p=>
  obtain⟨j,want⟩:=p;rw[hg]at h;simp only[se]at h;split at h
  . rename_i d hd;simp only[Ay]at h;subst h;simp only[yielded,hd,Option.bind_some,It];rcases E8 d t.length with hl|hl
    . obtain⟨u,e1,e2⟩:=Vg ht d t[d] (by simp[hl]);rw[Il hl];have e1':a.tmps[d]? =some u:=by simpa using e1
      rw[e1'];cases hx:t[d]<;>rw[hx]at e2
      case bool b=>rw[Wt e2]; cases b<;>cases want<;>rfl
      case val v=>simp only[R]at e2;obtain⟨rfl,hu⟩:=e2;cases u<;>first |rfl|(simp[vq]at hu)
      case vsl b n=>simp only[R]at e2;obtain⟨B,cap,h1,h2,rfl,_⟩:=e2;rfl
      all_goals
       simp only[R]at e2
       first
        |(obtain⟨_,⟨_,rfl,_⟩|⟨_,_,_,_,_,rfl,_⟩⟩:=e2<;>rfl)
        |(subst e2;rfl)
        |(obtain⟨rfl,_⟩:=e2;rfl)
        |(obtain⟨_,_,_,rfl⟩:=e2;rfl)
        |(obtain⟨_,_,rfl,_⟩:=e2;rfl)
        |(obtain⟨_,rfl,_⟩:=e2;rfl)
    have hlen:=H5 ht;rw[Im hl];have:a.tmps[d]? =none:=by rw[pr]; simp at hlen;omega
    rw[this]; rfl
  cases h
def W2(P:Program)(ops:Array Oper)(o:Oper):Option AO:=
 match Vm P o.op,se ops o.guard with
 |some op,some gd=>some ⟨o.dst,op,gd⟩
 |_,_=>none
def I4(P:Program)(ops:Array Oper):List Oper->Option (List AO)
 | []=>some []
 |o::r=>match W2 P ops o,I4 P ops r with
  |some x,some xs=>some (x::xs)
  |_,_=>none
def Jc(P:Program):List AO->List AV->List HB->(List AV->List HB->Prop)->Prop
 | [],t,H,K=>K t H
 |o::r,t,H,K=>(It t o.guard=true/\∃v H',E1 P o.op (Bh t) H v H'/\Jc P r (Cd t o.dst v) H' K)\/(It t o.guard=false/\Jc P r (Cd t o.dst .undef) H K)\/(It t o.guard=true/\∃H',E1 P o.op (Bh t) H .no H')
def Gk(P:Program)(F:Addr->Prop)(g:Gh)(H:List HB)(w:World)(t:List AV)(a:Act):Prop:=St F g H w/\Tm F g w t a/\a.defers=[]/\Ja P F w
def Sn(a:Act)(dst:Option Tmp)(v:Value):(a.put dst v).defers=a.defers:=by cases dst<;>rfl
def Aaz{ops:Array Oper}{Q:Exit->Act->World->Prop}{K:Ao->Ai->Prop} :∀(l:List Oper) (aos:B8) (k:Nat) (F:Addr->Prop) (g:Gh) (H:Ai) (w:World) (t:Ao) (a:Act),(∀ j,l[j]? =ops[k+j]?)->I4 P ops l=some aos->
 Gk P F g H w t a->Jc P aos t H K->(∀ F' g' H' w' t' a',Gk P F' g' H' w' t' a'->Bn F g H w F' g' H' w'->K t' H'->Q .normal a' w')->Kt [] F g H w Q->wpOps P ops Q (List.range' k l.length) a w
 | [],aos,k,F,g,H,w,t,a,_,hc,hs,h,hQ,_=>by
   simp only[I4,Ay]at hc;subst hc
   exact hQ F g H w t a hs (Bn.refl _ _ _ _) h
 |o::l,aos,k,F,g,H,w,t,a,hl,hc,hs,h,hQ,hP=>by
  simp only[I4]at hc;split at hc
  . rename_i x xs h1 h2;simp only[Ay]at hc;subst hc;have ho:ops[k]? =some o:=by simpa using(hl 0).symm
    have Ci:∀j,l[j]? =ops[k+1+j]?:=fun j=>by
     have:=hl (j+1);simp only[Ts]at this;rw[this]; congr 1;omega
    unfold W2 at h1;split at h1
    . rename_i op gd c1 c2;simp only[Ay]at h1;subst h1;obtain⟨s1,s2,s3,s4⟩:=hs;have hg:=ah s2 c2;simp only[Gq,y7,wpOps,ho,hg];simp only[Jc]at h;rcases h with⟨g1,v,H',e1,e2⟩|⟨g1,e2⟩|⟨g1,H',e1⟩
      . simp only[g1,Bp];refine .inl (U4 s4 s1 s2 c1 e1 (fun w' F' g' u r1 r2 r3=>?_) s3 hP);exact Aaz l xs (k+1) F' g' H' w' _ _ Ci h2 ⟨r2,(s2.mono r3.keeps).put r1 _,by rw[Sn]; exact s3,s4.mono r3.keeps⟩ e2 (fun F2 g2 H2 w2 t2 a2 q1 q2 q3=>hQ F2 g2 H2 w2 t2 a2 q1 (r3.trans q2) q3) (hP.ext r3)
      . simp only[g1,Dp,Bq];exact Aaz l xs (k+1) F g H w _ _ Ci h2 ⟨s1,s2.put Hk _,by rw[Sn]; exact s3,s4⟩ e2 hQ hP
      simp only[g1,Bp];exact .inl (U4 s4 s1 s2 c1 e1 (fun w' F' g' u r1 _ _=>(qu r1).elim) s3 hP)
    cases h1
  cases hc
end
end
def Kt.none{F:Addr->Prop}{g:Gh}{H:Ai}{w:World} :Kt ds F g H w Q:=fun _ _ _ _ _ _ _ _ _ _ _ h=>h.elim
end
section
def AR.ts:AR->List Nat
 | .tmp t=>[t]
 | .cst _=>[]
def ARs.ts(xs:List AR):List Nat:=xs.flatMap AR.ts
def j3(x:Option AR):List Nat:=match x with |some y=>y.ts|none=>[]
def Ek.ts:Ek->List Nat
 | .emptySl | .makeSl _ _ _ | .mkmap=>[]
 | .mov x | .box x | .boxT _ x | .convSB x | .load _ _ x | .nilck x | .binNil _ _ x | .un _ x | .convInt _ x | .faddr _ x | .extract x _ | .fld _ _ _ x | .len x | .slen x | .convS x | .mkif _ x=>x.ts
 | .pick c a b=>c.ts++a.ts++b.ts
 | .alloc _=>[]
 | .build _ ps=>ps.flatMap fun p=>p.2.2.ts
 | .buildSl _ _ _ ps=>ps.flatMap fun p=>p.2.ts
 | .store _ a x | .bin _ a x | .binB _ a x | .iaddr _ a x | .sidx a x | .append _ _ a x | .appendS _ a x | .mapset a x=>a.ts++x.ts
 | .mkfn _ a b=>ARs.ts a++ARs.ts b
 | .slice _ x lo hi mx=>x.ts++j3 lo++j3 hi++j3 mx
 | .sslice x lo hi=>x.ts++j3 lo++j3 hi
 | .min xs | .max xs=>ARs.ts xs
 | .call f args=>f.ts++ARs.ts args
def AO.looks(o:AO):List Nat:=o.op.ts++(match o.guard with |some (d,_)=>[d]|none=>[])
def Pl{t t':Ao}{x:AR}(h:∀i∈x.ts,t.getD i .undef=t'.getD i .undef):Bh t x=Bh t' x:=by
 cases x with
 |tmp i=>exact h i (by simp[AR.ts])
 |cst v=>rfl
def lc{t t':Ao}{xs:List AR}(h:∀i∈ARs.ts xs,t.getD i .undef=t'.getD i .undef):xs.map (Bh t)=xs.map (Bh t'):=
 yl fun x hx=>Pl fun i hi=>h i (by simp only[ARs.ts,List.mem_flatMap]; exact⟨x,hx,hi⟩)
def n7{t t':Ao}{x:Option AR}(h:∀i∈j3 x,t.getD i .undef=t'.getD i .undef):x.map (Bh t)=x.map (Bh t'):=by
 cases x with
 |none=>rfl
 |some y=>simp only[Tx]; rw[Pl (t':=t') h]
variable [D6]
def Ahl{P:Program}{op:Ek}{t t':Ao}(h:∀i∈op.ts,t.getD i .undef=t'.getD i .undef){H:Ai}{v:AV}{H':Ai}(hr:E1 P op (Bh t) H v H'):E1 P op (Bh t') H v H':=by
 cases op<;>simp only[Ek.ts,er]at h<;>simp only[E1,B4]at hr ⊢
 case build z ps=>
  have:(ps.map fun p=>(p.1,p.2.1,Bh t p.2.2))=ps.map fun p=>(p.1,p.2.1,Bh t' p.2.2):=yl fun p hp=>by
   rw[Pl (t':=t') fun i hi=>h i (List.mem_flatMap.2 ⟨p,hp,hi⟩)]
  rw[<- this]; exact hr
 case buildSl k z n ps=>
  have:(ps.map fun p=>(p.1,Bh t p.2))=ps.map fun p=>(p.1,Bh t' p.2):=yl fun p hp=>by
   rw[Pl (t':=t') fun i hi=>h i (List.mem_flatMap.2 ⟨p,hp,hi⟩)]
  rw[<- this]; exact hr
 case pick c a b=>
  rw[<- Pl (t:=t) fun i hi=>h i (.inl (.inl hi)),<-Pl (t:=t) (x:=a) fun i hi=>h i (.inl (.inr hi)),<-Pl (t:=t) (x:=b) fun i hi=>h i (.inr hi)]; exact hr
 case mkfn f a b=>
  rw[<- lc (t:=t) fun i hi=>h i (.inl hi),<-lc (t:=t) (xs:=b) fun i hi=>h i (.inr hi)]; exact hr
 case slice k x lo hi mx=>
  rw[<- Pl (t:=t) fun i hi=>h i (.inl (.inl (.inl hi))),<-n7 (t:=t) (x:=lo) fun i hi=>h i (.inl (.inl (.inr hi))),<-n7 (t:=t) (x:=hi) fun i hi=>h i (.inl (.inr hi)),<-n7 (t:=t) (x:=mx) fun i hi=>h i (.inr hi)]; exact hr
 case sslice x lo hi=>
  rw[<- Pl (t:=t) fun i hi=>h i (.inl (.inl hi)),<-n7 (t:=t) (x:=lo) fun i hi=>h i (.inl (.inr hi)),<-n7 (t:=t) (x:=hi) fun i hi=>h i (.inr hi)]; exact hr
 case call f args=>
  rw[<- Pl (t:=t) fun i hi=>h i (.inl hi),<-lc (t:=t) fun i hi=>h i (.inr hi)]; exact hr
 case min xs=>rw[<- lc (t:=t) h]; exact hr
 case max xs=>rw[<- lc (t:=t) h]; exact hr
 case alloc z=>exact hr
 case emptySl=>exact hr
 case makeSl=>exact hr
 case mkmap=>exact hr
 all_goals first
  |(rw[<- Pl (t:=t) h]; exact hr)
  |(rename_i x y;rw[<- Pl (t:=t) fun i hi=>h i (.inl hi),<-Pl (t:=t) (x:=y) fun i hi=>h i (.inr hi)]; exact hr)
  |(rename_i x y _;rw[<- Pl (t:=t) fun i hi=>h i (.inl hi),<-Pl (t:=t) (x:=y) fun i hi=>h i (.inr hi)]; exact hr)
def Bnp{t:Ao}{v:AV}{i:Nat}(h:∀d,dst=some d->i≠d):(Cd t dst v).getD i .undef=t.getD i .undef:=by
 cases dst with
 |none=>rfl
 |some d=>
  have:=h d rfl;simp[Cd,Ia (Ib this)]
def Bnq{t:Ao}{v:AV}{i:Nat}(h:∀d,dst=some d->i≠d):(Cd t dst v)[i]? =t[i]?:=by
 cases dst with
 |none=>rfl
 |some d=>
  have:=h d rfl;simp[Cd,Ia (Ib this)]
def Bno{t:Ao}{d e:Option Nat}{v u:AV}(h:∀x,d=some x->e≠some x):Cd (Cd t d v) e u=Cd (Cd t e u) d v:=by
 cases d with
 |none=>rfl
 |some x=>
  cases e with
  |none=>rfl
  |some y=>
   have:x≠y:=fun e=>h x rfl (e▸rfl);simp only[Cd];exact List.set_comm _ _ this
def l4(x y:AO):Bool:=
 (match x.dst with |some d=>!(y.looks).contains d&&y.dst != some d|none=>true) &&
 (match y.dst with |some d=>!(x.looks).contains d|none=>true)
def A4c{x y:AO}(h:l4 x y=true):(∀ d,x.dst=some d->d∉y.looks)/\(∀ d,x.dst=some d->y.dst≠some d)/\(∀ d,y.dst=some d->d∉x.looks):=by
 refine⟨fun d hd=>?_,fun d hd=>?_,fun d hd=>?_⟩<;>simp[l4,hd]at h
 . exact h.1.1
 . exact h.1.2
 exact h.2
def Zy{P:Program}{o:AO}{t:Ao}{v:AV}(h:∀d,dst=some d->d∉o.looks){H:Ai}{u:AV}{H':Ai} :E1 P o.op (Bh (Cd t dst v)) H u H'↔E1 P o.op (Bh t) H u H':=by
 have key:∀i∈o.op.ts,(Cd t dst v).getD i .undef=t.getD i .undef:=fun i hi=>Bnp fun d hd e=>h d hd (by subst e;simp only[AO.looks,er]; exact .inl hi);exact⟨Ahl key,Ahl fun i hi=>(key i hi).symm⟩
def At3{o:AO}{t:Ao}{v:AV}(h:∀d,dst=some d->d∉o.looks):It (Cd t dst v) o.guard=It t o.guard:=by
 cases hg:o.guard with
 |none=>rfl
 |some p=>
  obtain⟨d,want⟩:=p;simp only[It];rw[Bnq fun e he x=>h e he (by subst x;simp[AO.looks,hg])]
section
variable (P:Program) (aos:List AO) (waits:List (List Nat)) (fl:Nat->Bool) (np:Nat) (C:List HB->Prop)
def K6(listed:Array Bool):List Nat:=(List.range aos.length).filter fun i=>!listed.getD i true&&(waits.getD i []).all fun j=>listed.getD j false
def fh(i:Nat)(next:List AV->List HB->Prop)(t:List AV)(H:List HB):Prop:=
 match aos[i]? with
 |none=>next t H
 |some o=>if It t o.guard=true then(if fl i=true then C H/\∃v,(∀ H2,C H2->E1 P o.op (Bh t) H2 v H2)/\next (Cd t o.dst v) H else ∃v H',E1 P o.op (Bh t) H v H'/\(C H'\/np<=i)/\next (Cd t o.dst v) H')
  else next (Cd t o.dst .undef) H
def Tz(K:List AV->List HB->Prop):Nat->Array Bool->List AV->List HB->Prop
 |0,listed,t,H=>K6 aos waits listed=[]/\K t H
 |fuel+1,listed,t,H=>(K6 aos waits listed=[]->K t H)/\∀i∈K6 aos waits listed,fh P aos fl np C i (Tz K fuel (listed.setIfInBounds i true)) t H
def Qf{i:Nat} :i∈K6 aos waits listed↔i<aos.length/\listed.getD i true=false/\∀j∈waits.getD i [],listed.getD j false=true:=by
 unfold K6;simp[List.mem_filter,Pn]
def Ae6{i j:Nat}(h:j∈K6 aos waits listed)(Bg:j≠i):j∈K6 aos waits (listed.setIfInBounds i true):=by
 rw[Qf]at *;exact⟨h.1,by rw[getD_set_ne true (Ib Bg)]; exact h.2.1,fun x hx=>getD_set_true (h.2.2 x hx)⟩
def qy(i:Nat)(o:AO)(t:List AV)(H:List HB)(v:AV)(H':List HB):Prop:=
 (It t o.guard=true/\(if fl i=true then(∀ H2,C H2->E1 P o.op (Bh t) H2 v H2)/\H'=H else E1 P o.op (Bh t) H v H'/\(C H'\/np<=i)))\/(It t o.guard=false/\v= .undef/\H'=H)
variable {P aos waits fl np C}
def cl2(waits:List (List Nat))(j x:Nat):Bool:=(waits.getD j []).contains x||(waits.getD j []).any fun y=>(waits.getD y []).contains x
def A37{K:Ao->Ai->Prop}{i:Nat}{oi:AO}(hi:aos[i]? =some oi)(hpost:∀j,np<=j->j<aos.length->∀x,x<np->cl2 waits j x=true)(Ji:∀j,j<aos.length->fl j=true->j<np):
 ∀(fuel:Nat) (listed:Array Bool) (t:Ao) (H:Ai) (v:AV) (H':Ai),
  (∀ y,listed.getD y false=true->∀z∈waits.getD y [],listed.getD z false=true)->
  (∀ j oj,aos[j]? =some oj->j≠i->listed.getD j true=false->i∉waits.getD j []->l4 oi oj=true/\(fl i=true\/fl j=true))->
  i∈K6 aos waits listed->(∀ j,j<aos.length->listed.getD j true=false->fl j=true->C H)->qy P fl np C i oi t H v H'->
  Tz P aos waits fl np C K fuel (listed.setIfInBounds i true) (Cd t oi.dst v) H'->Tz P aos waits fl np C K (fuel+1) listed t H:=by
 have take:∀(n:Ao->Ai->Prop) (t:Ao) (H:Ai) (v:AV) (H':Ai),(fl i=true->C H)->qy P fl np C i oi t H v H'->n (Cd t oi.dst v) H'->fh P aos fl np C i n t H:=by
  intro n t H v H' hc hy hn;unfold fh;simp only[hi];rcases hy with⟨hg,hy⟩|⟨hg,rfl,rfl⟩
  . simp only[hg,Bp];split at hy
    . rename_i hf;obtain⟨h1,rfl⟩:=hy;simp only[hf,Bp]; exact⟨hc hf,v,h1,hn⟩
    rename_i hf;simp only[hf]; exact⟨v,H',hy.1,hy.2,hn⟩
  simp only[hg,Dp,Bq]; exact hn
 intro fuel
 induction fuel with
 |zero=>
  intro listed t H v H' _ _ hr hC hy h0;refine⟨fun h=>(by rw[h]at hr;cases hr),fun j hj=>?_⟩;by_cases Ul:j=i
  . subst Ul;exact take _ t H v H' (fun hf=>hC j ((Qf ..).1 hr).1 ((Qf ..).1 hr).2.1 hf) hy h0
  have:=Ae6 aos waits hj Ul
  rw[h0.1]at this;cases this
 |succ fuel ih=>
  intro listed t H v H' hdc At6 hr hC hy h0;refine⟨fun h=>(by rw[h]at hr;cases hr),fun j hj=>?_⟩;by_cases Ul:j=i
  . subst Ul;exact take _ t H v H' (fun hf=>hC j ((Qf ..).1 hr).1 ((Qf ..).1 hr).2.1 hf) hy h0
  obtain⟨Ge,ua,hjw⟩:=(Qf ..).1 hj;obtain⟨Jj,hiun,hiw⟩:=(Qf ..).1 hr;have bg:∃oj,aos[j]? =some oj:=⟨aos[j],by simp[Ge]⟩;obtain⟨oj,bg⟩:=bg
  have hnot:i∉waits.getD j []:=fun Sb=>by
   have h1:=hjw i Sb;rcases E8 i listed.size with h'|h'
   . simp[h']at hiun h1;rw[hiun]at h1;cases h1
   simp[pr h']at h1
  obtain⟨hap,hfl2⟩:=At6 j oj bg Ul ua hnot;obtain⟨q1,q2,q3⟩:=A4c hap;have M5:=h0.2 j (Ae6 aos waits hj Ul)
  have rest:∀(u:AV) (H2:Ai) (H2':Ai),qy P fl np C i oi (Cd t oj.dst u) H2 v H2'->(∀ x,x<aos.length->(listed.setIfInBounds j true).getD x true=false->fl x=true->C H2)->
   Tz P aos waits fl np C K fuel ((listed.setIfInBounds i true).setIfInBounds j true) (Cd (Cd t oi.dst v) oj.dst u) H2'->Tz P aos waits fl np C K (fuel+1) (listed.setIfInBounds j true) (Cd t oj.dst u) H2:=by
   intro u H2 H2' hy2 hC2 hn;refine ih _ _ _ v H2' (fun y hy z hz=>?_) (fun x ox hx hxi Iw hw=>?_) (Ae6 aos waits hr (Ib Ul)) hC2 hy2 ?_
   . by_cases hyj:j=y
     . subst hyj;exact getD_set_true (hjw z hz)
     rw[getD_set_ne false hyj]at hy;exact getD_set_true (hdc y hy z hz)
   . refine At6 x ox hx hxi ?_ hw;by_cases hjx:j=x
     . subst hjx;exact ua
     rw[getD_set_ne true hjx]at Iw;exact Iw
   rw[Array.setIfInBounds_comm _ _ Ul,<-Bno q2];exact hn
  have iy:∀u,It (Cd t oj.dst u) oi.guard=It t oi.guard:=fun u=>At3 q3;have hgj:It (Cd t oi.dst v) oj.guard=It t oj.guard:=At3 q1
  have unl:∀x,(listed.setIfInBounds j true).getD x true=false->listed.getD x true=false:=fun x hx=>by
   by_cases hjx:j=x
   . subst hjx;exact ua
   rw[getD_set_ne true hjx]at hx;exact hx
  unfold fh at M5 ⊢;simp only[bg]at M5 ⊢;rw[hgj]at M5;split
  . rename_i hg;simp only[hg,Bp]at M5;split
    . rename_i hfj;simp only[hfj,Bp]at M5;obtain⟨_,u,hu,hn⟩:=M5;refine⟨hC j Ge ua hfj,u,fun H2 Ue=>(Zy q1).1 (hu H2 Ue),?_⟩;refine rest u H H' ?_ (fun x hx Iw hf=>hC x hx (unl x Iw) hf) hn;rcases hy with⟨g1,hy⟩|⟨g1,g2,g3⟩
      . left;refine⟨by rw[iy]; exact g1,?_⟩
        split at hy
        . rename_i Jh;simp only[Jh,Bp]; exact⟨fun H2 Ue=>(Zy q3).2 (hy.1 H2 Ue),hy.2⟩
        rename_i Jh;simp only[Jh]; exact⟨(Zy q3).2 hy.1,hy.2⟩
      right;exact⟨by rw[iy]; exact g1,g2,g3⟩
    rename_i hfj;simp only[hfj]at M5;obtain⟨u,H2,hu,hcu,hn⟩:=M5;have Jh:fl i=true:=by rcases hfl2 with h|h;exact h;exact absurd h hfj
    have hC2:∀x,x<aos.length->(listed.setIfInBounds j true).getD x true=false->fl x=true->C H2:=by
     intro x hx Iw hf;rcases hcu with h|h
     . exact h
     have hxw:listed.getD x false=true:=by
      have:=hpost j h Ge x (Ji x hx hf);simp only[cl2,Wj,List.contains_iff_mem,List.any_eq_true]at this;rcases this with h|⟨y,hy,h⟩
      . exact hjw x h
      exact hdc y (hjw y hy) x h
     have:=unl x Iw;rcases E8 x listed.size with h'|h'
     . simp[h']at this hxw;rw[this]at hxw;cases hxw
     simp[pr h']at hxw
    have hH:H'=H:=by
     rcases hy with⟨_,hy⟩|⟨_,_,h⟩
     . simp only[Jh,Bp]at hy;exact hy.2
     exact h
    rw[hH]at hu;refine⟨u,H2,(Zy q1).1 hu,hcu,?_⟩;refine rest u H2 H2 ?_ hC2 hn;rcases hy with⟨g1,hy⟩|⟨g1,g2,g3⟩
    . left;refine⟨by rw[iy]; exact g1,?_⟩
      simp only[Jh,Bp]at hy ⊢;exact⟨fun H2 Ue=>(Zy q3).2 (hy.1 H2 Ue),trivial⟩
    right;exact⟨by rw[iy]; exact g1,g2,rfl⟩
  rename_i hg;simp only[hg]at M5;refine rest .undef H H' ?_ (fun x hx Iw hf=>hC x hx (unl x Iw) hf) M5;rcases hy with⟨g1,hy⟩|⟨g1,g2,g3⟩
  . left;refine⟨by rw[iy]; exact g1,?_⟩
    split at hy
    . rename_i Jh;simp only[Jh,Bp]; exact⟨fun H2 Ue=>(Zy q3).2 (hy.1 H2 Ue),hy.2⟩
    rename_i Jh;simp only[Jh]; exact⟨(Zy q3).2 hy.1,hy.2⟩
  right;exact⟨by rw[iy]; exact g1,g2,g3⟩
end
end
section
variable [D6]
def Rz(P:Program)(fl:Nat->Bool)(np:Nat)(C:List HB->Prop):Nat->List AO->List AV->List HB->(List AV->List HB->Prop)->Prop
 |_,[],t,H,K=>K t H
 |k,o::r,t,H,K=>
  (It t o.guard=true/\((fl k=true/\C H/\∃v,(∀ H2,C H2->E1 P o.op (Bh t) H2 v H2)/\Rz P fl np C (k+1) r (Cd t o.dst v) H K)\/
   (fl k=false/\∃v H',E1 P o.op (Bh t) H v H'/\(C H'\/np<=k)/\Rz P fl np C (k+1) r (Cd t o.dst v) H' K)))\/
  (It t o.guard=false/\Rz P fl np C (k+1) r (Cd t o.dst .undef) H K)
def K4(aos:List AO)(waits:List (List Nat))(fl:Nat->Bool)(np:Nat):Bool:=
 (List.range aos.length).all (fun j=>(waits.getD j []).all (fun x=>decide (x<j))&&(!decide (np<=j)||(List.range np).all fun x=>cl2 waits j x)&&(!fl j||decide (j<np)) &&
  (List.range j).all fun i=>(waits.getD j []).contains i||(match aos[i]?,aos[j]? with |some x,some y=>l4 x y|_,_=>false)&&(fl i||fl j))
def ci{aos:B8}{waits:List Ck}{fl:Nat->Bool}{np:Nat}(h:K4 aos waits fl np=true){j:Nat}(hj:j<aos.length):
 (∀ x∈waits.getD j [],x<j)/\(np<=j->∀x,x<np->cl2 waits j x=true)/\(fl j=true->j<np)/\∀i,i<j->i∉waits.getD j []->∀x y,aos[i]? =some x->aos[j]? =some y->l4 x y=true/\(fl i=true\/fl j=true):=by
 unfold K4 at h;rw[Pn]at h;have h:=h j (List.mem_range.2 hj);simp only[Bb,Pn,Aw,Ag9,Wj,Mn]at h;obtain⟨⟨⟨h1,h2⟩,h3⟩,h4⟩:=h;refine⟨h1,fun hn x hx=>?_,fun hf=>?_,fun i hi jb x y hx hy=>?_⟩
 . rcases h2 with h2|h2
   . simp at h2;omega
   exact h2 x hx
 . rcases h3 with h3|h3
   . rw[hf]at h3;cases h3
   exact h3
 rcases h4 i hi with h|h
 . exact absurd (by simpa using h) jb
 rw[hx,hy]at h;exact h
section
variable {P:Program} {aos:List AO} {waits:List (List Nat)} {fl:Nat->Bool} {np:Nat} {C:List HB->Prop} {K:List AV->List HB->Prop}
def Aao(hok:K4 aos waits fl np=true):∀(l:B8) (k:Nat) (listed:Array Bool) (t:Ao) (H:Ai),(∀ j,l[j]? =aos[k+j]?)->k+l.length=aos.length->listed.size=aos.length->(∀ j,j<aos.length->listed[j]? =some (decide (j<k)))->
 (C H\/np<=k)->Rz P fl np C k l t H K->Tz P aos waits fl np C K l.length listed t H
 | [],k,listed,t,H,_,hk,hz,hl,_,h=>by
   refine⟨?_,h⟩
   cases hr:K6 aos waits listed with
   |nil=>rfl
   |cons x xs=>
    have:x∈K6 aos waits listed:=by rw[hr]; simp
    rw[Qf]at this;have h2:=hl x this.1;simp at hk;simp[Vb,h2]at this
    omega
 |o::l,k,listed,t,H,hl0,hk,hz,hl,hC,h=>by
  simp only[Gq]at hk;have hkn:k<aos.length:=Aa;have ho:aos[k]? =some o:=by simpa using(hl0 0).symm
  have hl0':∀j,l[j]? =aos[k+1+j]?:=fun j=>by
   have:=hl0 (j+1);simp only[Ts]at this;rw[this]; congr 1;omega
  obtain⟨w1,w2,w3,w4⟩:=ci hok hkn
  have hr:k∈K6 aos waits listed:=by
   rw[Qf];refine⟨hkn,by simp[Vb,hl k hkn],fun j hj=>?_⟩;have:=w1 j hj;simp[Vb,hl j Aa,this]
  have Ci:∀j,j<aos.length->(listed.setIfInBounds k true)[j]? =some (decide (j<k+1)):=fun j hj=>by
   by_cases e:k=j
   . subst e;simp[hz,hkn]
   rw[Array.getElem?_setIfInBounds_ne e,hl j hj];congr 1;simp;omega
  have next:∀(v:AV) (H':Ai),(C H'\/np<=k+1)->qy P fl np C k o t H v H'->Rz P fl np C (k+1) l (Cd t o.dst v) H' K->Tz P aos waits fl np C K (l.length+1) listed t H:=by
   intro v H' hC' hy hd;refine A37 ho (fun j hj Ge x hx=>(ci hok Ge).2.1 hj x hx) (fun j Ge hf=>(ci hok Ge).2.2.1 hf) l.length listed t H v H' (fun y hy z hz=>?_) (fun j oj bg Bg Iw hnw=>?_) hr (fun j Ge Iw hf=>?_) hy (Aao hok l (k+1) _ _ H' hl0' Aa (by simpa using hz) Ci hC' hd)
   . have hyl:y<aos.length:=by
      rcases E8 y aos.length with h|h
      . exact h
      simp[Vb,pr (show listed.size<=y by omega)]at hy
     have hyk:y<k:=by simpa[Vb,hl y hyl]using hy
     have Qd:=(ci hok hyl).1 z hz;simp[Vb,hl z Aa];omega
   . have Ge:j<aos.length:=(List.getElem?_eq_some_iff.1 bg).1
     have hjk:k<j:=by
      simp[Vb,hl j Ge]at Iw;omega
     exact(ci hok Ge).2.2.2 k hjk hnw o oj ho bg
   rcases hC with h|h
   . exact h
   have:=(ci hok Ge).2.2.1 hf;simp[Vb,hl j Ge]at Iw;omega
  simp only[Rz]at h;rcases h with⟨hg,⟨hf,Yx,v,hq,hd⟩|⟨hf,v,H',hq,hc,hd⟩⟩|⟨hg,hd⟩
  . exact next v H (.inl Yx) (.inl ⟨hg,by simp only[hf,Bp]; exact⟨hq,trivial⟩⟩) hd
  . exact next v H' (hc.imp id Aa) (.inl ⟨hg,by simp only[hf,Dp,Bq]; exact⟨hq,hc⟩⟩) hd
  exact next .undef H (hC.imp id Aa) (.inr ⟨hg,rfl,rfl⟩) hd
def Tk(ops:Array Oper):List (List Nat):=ops.toList.map fun o=>(o.after.toList.filter (Region.binds .any)).map (·.on)
def Yp{ops:Array Oper} :∀{l:List Oper} {aos:List AO},I4 P ops l=some aos->l.length=aos.length/\∀(i:Nat) o,l[i]? =some o->∃x,aos[i]? =some x/\W2 P ops o=some x
 | [],aos,h=>by simp only[I4,Ay]at h;subst h;simp
 |o::l,aos,h=>by
  simp only[I4]at h;split at h
  . rename_i x xs h1 h2;simp only[Ay]at h;subst h;obtain⟨e1,e2⟩:=Yp h2;refine⟨by simp[e1],fun i o' hi=>?_⟩
    cases i with
    |zero=>simp at hi;subst hi;exact⟨x,rfl,h1⟩
    |succ i=>simp at hi;simpa using e2 i o' hi
  cases h
def ol(hc:I4 P ops ops.toList=some aos)(hw:waits=Tk ops){i:Nat} :i∈Region.ready .any ops listed↔i∈K6 aos waits listed:=by
 subst hw;have hlen:=(Yp hc).1;rw[mem_ready,Qf];constructor
 . rintro⟨h1,o,ho,h2⟩;have hi:=(Array.getElem?_eq_some_iff.1 ho).1;refine⟨by rw[<- hlen]; simpa using hi,h1,fun j hj=>?_⟩
   have hwo:(Tk ops).getD i []=(o.after.toList.filter (Region.binds .any)).map (·.on):=by
    simp[Tk,Jb,ho]
   rw[hwo,qf]at hj;obtain⟨e,he,rfl⟩:=hj;rw[List.mem_filter]at he;exact h2 e (by simpa using he.1) he.2
 rintro⟨h1,h2,h3⟩;have hi:i<ops.size:=by rw[<- hlen]at h1;simpa using h1
 refine⟨h2,ops[i],by simp[hi],fun e he hb=>h3 _ ?_⟩
 have hwo:(Tk ops).getD i []=(ops[i].after.toList.filter (Region.binds .any)).map (·.on):=by
  simp[Tk,Jb,hi]
 rw[hwo,qf];exact⟨e,List.mem_filter.2 ⟨by simpa using he,hb⟩,rfl⟩
def kn(hc:I4 P ops ops.toList=some aos)(hw:waits=Tk ops) :Region.ready .any ops listed=[]↔K6 aos waits listed=[]:=by
 constructor
 . intro h;rw[Ag4]at h ⊢;exact fun x hx=>h x ((ol hc hw).2 hx)
 intro h;rw[Ag4]at h ⊢;exact fun x hx=>h x ((ol hc hw).1 hx)
def Aap{ops:Array Oper}(hc:I4 P ops ops.toList=some aos)(hw:waits=Tk ops){Q:Exit->Act->World->Prop} :∀(fuel:Nat) (listed:Array Bool) (F:Addr->Prop) (g:Gh) (H:Ai) (w:World) (t:Ao) (a:Act),Gk P F g H w t a->Tz P aos waits fl np C K fuel listed t H->
 (∀ F' g' H' w' t' a',Gk P F' g' H' w' t' a'->Bn F g H w F' g' H' w'->K t' H'->Q .normal a' w')->Kt [] F g H w Q->wpAny P .any ops Q fuel listed a w
 |0,listed,F,g,H,w,t,a,hs,h,hQ,_=>⟨(kn hc hw).2 h.1,hQ F g H w t a hs (Bn.refl _ _ _ _) h.2⟩
 |fuel+1,listed,F,g,H,w,t,a,hs,h,hQ,hP=>by
  refine⟨fun hr=>hQ F g H w t a hs (Bn.refl _ _ _ _) (h.1 ((kn hc hw).1 hr)),fun i hi=>?_⟩;have h2:=h.2 i ((ol hc hw).1 hi);obtain⟨_,o,ho,_⟩:=mem_ready.1 hi;obtain⟨x,hx,Og⟩:=(Yp hc).2 i o (by simpa using ho);unfold W2 at Og;split at Og
  . rename_i op gd c1 c2;simp only[Ay]at Og;subst Og;obtain⟨s1,s2,s3,s4⟩:=hs;have hg:=ah s2 c2;unfold fh at h2;simp only[hx]at h2;unfold wpOp;simp only[ho,hg]
    have go:∀v H',E1 P op (Bh t) H v H'->Tz P aos waits fl np C K fuel (listed.setIfInBounds i true) (Cd t o.dst v) H'->o.wp P a w (wpAny P .any ops Q fuel (listed.setIfInBounds i true)) Q:=by
     intro v H' e1 e2
     exact U4 s4 s1 s2 c1 e1 (fun w' F' g' u r1 r2 r3=>
      Aap hc hw fuel _ F' g' H' w' _ _ ⟨r2,(s2.mono r3.keeps).put r1 _,by rw[Sn]; exact s3,s4.mono r3.keeps⟩ e2 (fun F2 g2 H2 w2 t2 a2 q1 q2 q3=>hQ F2 g2 H2 w2 t2 a2 q1 (r3.trans q2) q3) (hP.ext r3)) s3 hP
    split at h2
    . rename_i a8;simp only[a8,Bp]
      left
      split at h2
      . obtain⟨Yx,v,hv,hn⟩:=h2;exact go v H (hv H Yx) hn
      obtain⟨v,H',hv,_,hn⟩:=h2;exact go v H' hv hn
    rename_i a8;simp only[a8,Dp,Bq];exact Aap hc hw fuel _ F g H w _ _ ⟨s1,s2.put Hk _,by rw[Sn]; exact s3,s4⟩ h2 hQ hP
  cases Og
end
def Gk.drew{P:Program}{F:Addr->Prop}{g:Gh}{H:Ai}{w w':World}{t:Ao}{a:Act}(h:Gk P F g H w t a)(hw:w'.heap=w.heap)(Kb:w'.os=w.os/\w'.output=w.output):Gk P F g H w' t a/\Bn F g H w F g H w':=by
 have hK:Fi F g w F g w':=⟨fun _ h=>h,fun a _=>Oa (by rw[hw]),Gh.le_refl g⟩;obtain⟨s1,s2,s3,s4⟩:=h;refine⟨⟨⟨fun a ha=>by rw[hw]; exact s1.live a ha,s1.beyond,s1.inj,fun b cs hb=>?_,fun t n k ty ht=>?_,s1.spots,fun b e cs hb=>?_,fun b ks hb=>?_⟩,s2.mono hK,s3,s4.mono hK⟩,⟨fun _ h=>h,hK.keep,hK.gh,by rw[hw]; exact Bm _,fun B _ _=>by rw[hw],fun a h=>.inl h,fun b B h h'=>.inl ⟨h,h'⟩,Bm _,Kb⟩⟩
 . obtain⟨B,vs,e,h1,h2,h3,h4,h5⟩:=s1.var b cs hb;exact⟨B,vs,e,h1,h2,by rw[hw]; exact h3,RL.mono hK _ _ h4,h5⟩
 . obtain⟨B,cap,vs,e,fr,h1,h2,h3,h4⟩:=s1.tok t n k _ ht;exact⟨B,cap,vs,e,fr,h1,h2,by rw[hw]; exact h3,h4⟩
 . obtain⟨B,vs,h1,h2,h3,h4,h5⟩:=s1.tvar b e cs hb;exact⟨B,vs,h1,h2,by rw[hw]; exact h3,RL.mono hK _ _ h4,h5⟩
 rcases s1.mp b _ hb with q|⟨B,es,ck,h1,h2,h3,h4⟩
 . exact .inl q
 exact .inr ⟨B,es,ck,h1,h2,by rw[hw]; exact h3,h4⟩
end
