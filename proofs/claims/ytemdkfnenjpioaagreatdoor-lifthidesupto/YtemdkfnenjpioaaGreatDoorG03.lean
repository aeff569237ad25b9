/- Joined: Snd10 Snd11 Snd12 Snd13 Step Code. -/
import Derived.Test.YtemdkfnenjpioaaGreatDoorG02
import Derived.Test.YtemdkfnenjpioaaGreatDoorG00
set_option linter.unusedSimpArgs false
set_option linter.unusedVariables false
set_option linter.unusedSectionVars false
set_option linter.all false
set_option maxHeartbeats 4000000
set_option maxRecDepth 10000
namespace Go.Proofs.YtemdkfnenjpioaaGreatDoor
open Go
section
variable {F:Addr→Prop} {g:Gh} {w:World} {P:Program}
theorem Aik: ∀{xs ys:List (List AV)} {B off k:Nat},RE F g w B off k xs→RE F g w B (off+xs.length * k) k ys→RE F g w B off k (xs++ys)
 | [],ys,B,off,k,_,h=>by simpa using h
 | x :: xs,ys,B,off,k,h,h'=>by
   simp only[RE] at h
   simp only[List.cons_append,RE]
   refine⟨h.1,h.2.1,Aik h.2.2 ?_⟩
   simp only[List.length_cons,Nat.add_mul,Nat.one_mul] at h'
   rwa [show off+k+xs.length * k=off+(xs.length * k+k) by omega]
theorem arr_in {H:List HB} (hs:St F g H w) {t n k cap B m:Nat} {ty ty':TypeId} (hH:H[t]? =some (.tok n k ty)) (hB:g.blk t=some B) (hT:g.tk t=some (n,cap)) {vs news:List Value} {el:TypeId} {fr:Nat × Nat} (hty:ty'≠0→el=ty')
 (hb:w.heap[B]? =some (.cells vs.toArray el fr)) (hsz:vs.length=cap * k) (hfr:fr.2≤n * k) (hcap:n+m≤cap) (hl:news.length=m * k) (hF: ∀off,n * k≤off→¬F ⟨B,off,none⟩)
 {w':World} (z:w'.heap.size=w.heap.size) (hn:w'.heap[B]? =some (.cells (Gt vs (n * k) news).toArray el fr)) (ho: ∀b,b≠B→w'.heap[b]? =w.heap[b]?) (hio:w'.os=w.os∧w'.output=w.output):
 ∃F' g',(∀ off,off < (n+m) * k→F' ⟨B,off,none⟩)∧St F' g' (H.set t (.tok (n+m) k ty')) w'∧Ext F g H w F' g' (H.set t (.tok (n+m) k ty')) w'∧g'.blk t=some B∧g'.tk t=some (n+m,cap):=by
 have htl:t < H.length:=(List.getElem?_eq_some_iff.1 hH).1
 have hlt:=B9 hb
 have hk1:k≠1∨el=3→fr=(0,0):=by
  obtain⟨X,c,us,ex,frx,h1,h2,h3,h4,_⟩:=hs.tok t n k _ hH
  rw[hB] at h1;cases h1
  rw[hb] at h3;cases h3
  exact h4.2.2.2
 let F':Addr→Prop:=fun a=>F a∨(a.block=B∧a.spot=none∧a.off < (n+m) * k)
 let g':Gh:=⟨g.blk,fun x=>if x=t then some (n+m,cap) else g.tk x⟩
 have gt:g'.tk t=some (n+m,cap):=by show (if t=t then _ else _)=_;rw[if_pos rfl]
 have gx: ∀x,x≠t→g'.tk x=g.tk x:=fun x hx=>by show (if x=t then _ else _)=_;rw[if_neg hx]
 have hmul:(n+m) * k=n * k+m * k:=Nat.add_mul _ _ _
 have hcapk:(n+m) * k≤cap * k:=Nat.mul_le_mul_right k hcap
 have hK:Cr F g w F' g' w':=by
  refine⟨fun _ h=>.inl h,fun a ha=>?_,⟨fun b X h1 h2=>?_,fun x mx c h=>?_⟩⟩
  · by_cases e:a.block=B
    · cases a with
      | mk bl off spot=>
        simp only at e;subst e
        cases spot with
        | some s=>exact absurd ha (hs.spots _ _ _)
        | none=>
          have hoff:off < n * k:=by
           rcases Nat.lt_or_ge off (n * k) with h | h
           · exact h
           · exact absurd ha (hF off h)
          simp only[World.cell?,hn,hb,Option.isSome_none,Bool.false_eq_true,if_false]
          simp only[Gt,List.getElem?_toArray,List.append_assoc]
          rw[List.getElem?_append_left (by simp;omega),List.getElem?_take,if_pos hoff]
    · exact Fs (ho _ e)
  · have:b≠t:=fun e=>by subst e;rw[hT] at h2;cases h2
    exact⟨h1,(gx b this).trans h2⟩
  · by_cases e:x=t
    · subst e
      rw[hT] at h;cases h
      exact⟨n+m,cap,gt,by omega,fun _=>⟨rfl,rfl⟩⟩
    · exact⟨mx,c,(gx x e).trans h,Nat.le_refl _,fun _=>⟨rfl,rfl⟩⟩
 have hXB: ∀x X,x≠t→g.blk x=some X→X≠B:=fun x X hx hX e=>hx (hs.inj x t B (by rw[hX,e]) hB)
 refine⟨F',g',fun off h=>.inr ⟨rfl,rfl,h⟩,⟨fun a ha=>?_,fun x hx=>?_,hs.inj,fun x cx hx=>?_,fun x nx kx tx hx=>?_,fun b off s h=>?_,fun x ex cx hx=>?_,fun x ks hx=>?_⟩,⟨hK.sub,hK.keep,hK.gh,by omega,fun X hX hnx=>ho X (fun e=>hnx t htl (by rw[hB,e])),fun a h=>?_,fun x X hx h=>.inl ⟨by simpa using hx,h⟩,by simp,hio⟩,hB,gt⟩
 · rcases ha with ha | ⟨ha,_⟩
   · rw[z]; exact hs.live a ha
   · omega
 · have:=hs.beyond x (by simpa using hx)
   exact⟨this.1,(gx x (fun e=>by subst e;rw[List.length_set] at hx;omega)).trans this.2⟩
 · by_cases e:x=t
   · subst e;rw[List.getElem?_set_self htl] at hx;cases hx
   · rw[List.getElem?_set_ne (Ne.symm e)] at hx
     obtain⟨X,us,ex,h1,h2,h3,h4,h5⟩:=hs.var x cx hx
     have hne:=hXB x X e h1
     exact⟨X,us,ex,h1,(gx x e).trans h2,(ho X hne).trans h3,RL.mono hK _ _ h4,fun off h=>by
      rcases h with h | ⟨h,_⟩
      · exact h5 off h
      · exact hne h⟩
 · by_cases e:x=t
   · subst e
     rw[List.getElem?_set_self htl] at hx;cases hx
     refine⟨B,cap,_,el,fr,hB,gt,hn,⟨by omega,?_,hty,hk1⟩,hcap,fun off hoff h=>?_⟩
     · simp[Gt,hl]; omega
     · rcases h with h | ⟨_,_,h⟩
       · exact hF off (by omega) h
       · simp only at h;omega
   · rw[List.getElem?_set_ne (Ne.symm e)] at hx
     obtain⟨X,cx,us,ex,frx,h1,h2,h3,h4,h5,h6⟩:=hs.tok x nx kx _ hx
     have hne:=hXB x X e h1
     exact⟨X,cx,us,ex,frx,h1,(gx x e).trans h2,(ho X hne).trans h3,h4,h5,fun off hoff h=>by
      rcases h with h | ⟨h,_⟩
      · exact h6 off hoff h
      · exact hne h⟩
 · rcases h with h | ⟨_,h,_⟩
   · exact hs.spots b off s h
   · cases h
 · by_cases e:x=t
   · subst e;rw[List.getElem?_set_self htl] at hx;cases hx
   · rw[List.getElem?_set_ne (Ne.symm e)] at hx
     obtain⟨X,us,h1,h2,h3,h4,h5⟩:=hs.tvar x ex cx hx
     have hne:=hXB x X e h1
     exact⟨X,us,h1,(gx x e).trans h2,(ho X hne).trans h3,RL.mono hK _ _ h4,fun off h=>by
      rcases h with h | ⟨h,_⟩
      · exact h5 off h
      · exact hne h⟩
 · by_cases e:x=t
   · subst e;rw[List.getElem?_set_self htl] at hx;cases hx
   · rw[List.getElem?_set_ne (Ne.symm e)] at hx
     rcases hs.mp x _ hx with⟨h0,h1,h2⟩ | ⟨X,es,ck,h1,h2,h3,h4⟩
     · exact .inl ⟨h0,h1,(gx x e).trans h2⟩
     · have hne:=hXB x X e h1
       exact .inr ⟨X,es,ck,h1,(gx x e).trans h2,(ho X hne).trans h3,h4⟩
 · rcases h with h | ⟨h,_⟩
   · exact .inl h
   · exact .inr (.inr ⟨t,htl,by rw[hT]; simp,by rw[hB,h]⟩)
theorem Aom {H H':List HB} (hs:St F g H w) {t n k cap:Nat} {ty:TypeId} (h1:H'[t]? =some (.tok n k ty)) (h2: ∀x,x≠t→H'[x]? =H[x]?) (h3:H.length≤H'.length) (h4:H'.length≤max H.length (t+1))
 (h5:(t=H.length)∨(∃ n0 c0,g.tk t=some (n0,c0)∧n0 < n∧t < H.length)∨(g.blk t=none∧g.tk t=none)) {vs:Array Value} {e:TypeId} (hte:ty≠0→e=ty) (hsz:vs.size=cap * k) (hcap:n≤cap) {w':World} (hw:w'.heap=w.heap.push (.cells vs e)) (hio:w'.os=w.os∧w'.output=w.output):
 ∃F' g',(∀ off,off < n * k→F' ⟨w.heap.size,off,none⟩)∧St F' g' H' w'∧Ext F g H w F' g' H' w'∧g'.blk t=some w.heap.size∧g'.tk t=some (n,cap):=by
 have hlt: ∀b,b < w.heap.size→w'.heap[b]? =w.heap[b]?:=fun b hb=>by rw[hw]; exact K0 w _ b hb
 have hz:w'.heap.size=w.heap.size+1:=by rw[hw]; simp
 have hnew:w'.heap[w.heap.size]? =some (.cells vs e):=by rw[hw]; exact Kl w _
 have htl:t < H'.length:=(List.getElem?_eq_some_iff.1 h1).1
 let F':Addr→Prop:=fun a=>F a∨(a.block=w.heap.size∧a.spot=none∧a.off < n * k)
 let g':Gh:=⟨fun x=>if x=t then some w.heap.size else g.blk x,fun x=>if x=t then some (n,cap) else g.tk x⟩
 have gt:g'.tk t=some (n,cap):=by show (if t=t then _ else _)=_;rw[if_pos rfl]
 have gbt:g'.blk t=some w.heap.size:=by show (if t=t then _ else _)=_;rw[if_pos rfl]
 have gx: ∀x,x≠t→g'.tk x=g.tk x:=fun x hx=>by show (if x=t then _ else _)=_;rw[if_neg hx]
 have gbx: ∀x,x≠t→g'.blk x=g.blk x:=fun x hx=>by show (if x=t then _ else _)=_;rw[if_neg hx]
 have hK:Cr F g w F' g' w':=by
  refine⟨fun _ h=>.inl h,fun a ha=>Fs (hlt _ (hs.live a ha)),⟨fun b X q1 q2=>?_,fun x mx c h=>?_⟩⟩
  · have:b≠t:=fun e=>by
     subst e
     rcases h5 with h5 | ⟨n0,c0,h5,_⟩ | ⟨h5,_⟩
     · have:=(hs.beyond b (by omega)).1;rw[this] at q1;cases q1
     · rw[h5] at q2;cases q2
     · rw[h5] at q1;cases q1
    exact⟨(gbx b this).trans q1,(gx b this).trans q2⟩
  · by_cases e:x=t
    · subst e
      rcases h5 with h5 | ⟨n0,c0,h5,hn,_⟩ | ⟨_,h5⟩
      · have:=(hs.beyond x (by omega)).2;rw[this] at h;cases h
      · rw[h5] at h;cases h
        exact⟨n,cap,gt,by omega,fun e=>by omega⟩
      · rw[h5] at h;cases h
    · exact⟨mx,c,(gx x e).trans h,Nat.le_refl _,fun _=>⟨rfl,gbx x e⟩⟩
 refine⟨F',g',fun off h=>.inr ⟨rfl,rfl,h⟩,⟨fun a ha=>?_,fun x hx=>?_,fun b b' X q1 q2=>?_,fun x cx hx=>?_,fun x nx kx tx hx=>?_,fun b off s h=>?_,fun x ex cx hx=>?_,fun x ks hx=>?_⟩,⟨hK.sub,hK.keep,hK.gh,by omega,fun X hX _=>hlt X hX,fun a h=>?_,fun x X hx h=>?_,h3,hio⟩,gbt,gt⟩
 · rcases ha with ha | ⟨ha,_⟩
   · have:=hs.live a ha;omega
   · omega
 · have hxt:x≠t:=by omega
   have:=hs.beyond x (by omega)
   exact⟨(gbx x hxt).trans this.1,(gx x hxt).trans this.2⟩
 · by_cases e:b=t<;>by_cases e':b'=t
   · omega
   · subst e;rw[gbt] at q1;cases q1;rw[gbx b' e'] at q2;have:=hs.blk_lt q2;omega
   · subst e';rw[gbt] at q2;cases q2;rw[gbx b e] at q1;have:=hs.blk_lt q1;omega
   · rw[gbx b e] at q1;rw[gbx b' e'] at q2;exact hs.inj b b' X q1 q2
 · by_cases e:x=t
   · subst e;rw[h1] at hx;cases hx
   · rw[h2 x e] at hx
     obtain⟨X,us,ex,q1,q2,q3,q4,q5⟩:=hs.var x cx hx
     exact⟨X,us,ex,(gbx x e).trans q1,(gx x e).trans q2,(hlt X (B9 q3)).trans q3,RL.mono hK _ _ q4,fun off h=>by
      rcases h with h | ⟨h,_⟩
      · exact q5 off h
      · have:=B9 q3;simp only at h;omega⟩
 · by_cases e:x=t
   · subst e
     rw[h1] at hx;cases hx
     refine⟨w.heap.size,cap,vs,_,(0,0),gbt,gt,hnew,⟨Nat.zero_le _,hsz,hte,fun _=>rfl⟩,hcap,fun off hoff h=>?_⟩
     rcases h with h | ⟨_,_,h⟩
     · have:=hs.live _ h;simp at this
     · simp only at h;omega
   · rw[h2 x e] at hx
     obtain⟨X,cx,us,ex,frx,q1,q2,q3,q4,q5,q6⟩:=hs.tok x nx kx _ hx
     exact⟨X,cx,us,ex,frx,(gbx x e).trans q1,(gx x e).trans q2,(hlt X (B9 q3)).trans q3,q4,q5,fun off hoff h=>by
      rcases h with h | ⟨h,_⟩
      · exact q6 off hoff h
      · have:=B9 q3;simp only at h;omega⟩
 · rcases h with h | ⟨_,h,_⟩
   · exact hs.spots b off s h
   · cases h
 · by_cases e:x=t
   · subst e;rw[h1] at hx;cases hx
   · rw[h2 x e] at hx
     obtain⟨X,us,q1,q2,q3,q4,q5⟩:=hs.tvar x ex cx hx
     exact⟨X,us,(gbx x e).trans q1,(gx x e).trans q2,(hlt X (B9 q3)).trans q3,RL.mono hK _ _ q4,fun off h=>by
      rcases h with h | ⟨h,_⟩
      · exact q5 off h
      · have:=B9 q3;simp only at h;omega⟩
 · by_cases e:x=t
   · subst e;rw[h1] at hx;cases hx
   · rw[h2 x e] at hx
     rcases hs.mp x _ hx with⟨q0,q1,q2⟩ | ⟨X,es,ck,q1,q2,q3,q4⟩
     · exact .inl ⟨q0,(gbx x e).trans q1,(gx x e).trans q2⟩
     · exact .inr ⟨X,es,ck,(gbx x e).trans q1,(gx x e).trans q2,(hlt X (B9 q3)).trans q3,q4⟩
 · rcases h with h | ⟨h,_⟩
   · exact .inl h
   · exact .inr (.inl (by omega))
 · by_cases e:x=t
   · subst e;rw[gbt] at h;cases h;right;omega
   · rw[gbx x e] at h;exact .inl ⟨hs.lt h,h⟩
end
end Go.Proofs.YtemdkfnenjpioaaGreatDoor
namespace Go.Proofs.YtemdkfnenjpioaaGreatDoor
open Go
section
variable {F:Addr→Prop} {g:Gh} {w:World} {P:Program}
theorem src_sl {tok:Tok} {ys:List (List AV)} {x:Value} (h:R F g w (.sl tok ys) x) {k:Nat} (hk:C0 k ys=true):
 ∃news:List Value,Src P w k x ys.length news∧news.length=ys.length * k∧RL F g w ys.flatten news∧ys.flatten.all AV.isCell=true∧(∀ r ∈ ys,r.length=k):=by
 obtain⟨_,⟨rfl,rfl,_⟩ | ⟨B,off,sp,cap,k',rfl,_,⟨hk',hsp⟩,h3,_⟩⟩:=Ep h
 · exact⟨[],⟨fun _=>rfl,fun _ _=>rfl⟩,by simp,by simp[RL],rfl,by simp⟩
 · have:ys=[]∨k'=k:=Z7 h3 hk
   rcases this with rfl | rfl
   · refine⟨[],⟨fun _=>rfl,fun w' _=>?_⟩,by simp,by simp[RL],rfl,by simp⟩
     simp only[Builtin.firstCells,List.length_nil,Nat.zero_mul]
     rfl
   · rcases hsp with rfl | rfl
     · refine⟨[],⟨fun _=>rfl,fun w' _=>?_⟩,by simp,by simp[RL],rfl,by simp⟩
       simp only[Builtin.firstCells,List.length_nil,Nat.zero_mul]
       rfl
     obtain⟨vs,a1,a2,a3,a4,a5⟩:=Ao9 h3
     refine⟨vs,⟨fun _=>rfl,fun w' hw'=>?_⟩,a1,a2,a3,a4⟩
     exact run_firstCells_some (P:=P) w' k' ys.length ⟨B,off,none⟩ ys.length cap vs a1 fun j v hj=>by
      rw[Iv,hw']; exact (a5 j v hj).1
theorem src_str {s:List UInt8} {x:Value} (h:R F g w (.str s) x):
 ∃news:List Value,Src P w 1 x (s.map fun c=>[AV.int .u8 c.toNat]).length news∧news.length=(s.map fun c=>[AV.int .u8 c.toNat]).length * 1∧RL F g w (s.map fun c=>[AV.int .u8 c.toNat]).flatten news∧(s.map fun c=>[AV.int .u8 c.toNat]).flatten.all AV.isCell=true∧(∀ r ∈ (s.map fun c=>[AV.int .u8 c.toNat]),r.length=1):=by
 obtain⟨rfl,hl⟩:=Jv h
 refine⟨s.map fun c=>.int .u8 c.toNat,⟨fun _=>by simp[Builtin.lenOf,W5],fun w' _=>?_⟩,by simp,?_,?_,by simp⟩
 · simp only[Builtin.firstCells,List.length_map,Sem.run_pure]
   congr 1
   apply Array.ext'
   simp[ByteArray.data_extract]
 · clear hl h
   induction s with
   | nil=>simp[RL]
   | cons c s ih=>
     simp only[List.map_cons,List.flatten_cons,List.cons_append,List.nil_append,RL]
     exact⟨_,_,rfl,by simp only[R]; exact⟨trivial,by have:=c.toNat_lt;unfold IntKind.has IntKind.min IntKind.max IntKind.signed IntKind.bits;simp;omega⟩,ih⟩
 · simp[List.all_flatten,AV.isCell]
theorem Ane {ats:Array TypeId} {e ty:TypeId} {i:TypeInfo} (hA:Qn P ats e i) {base:Option Addr} {n cap:Nat} {x:Value} (hS:Src P w i.size x 0 []) (hroom:n≤cap):
 (Builtin.append_ ats ty #[.slice base n cap,x]).run P w= .ok (.slice base n cap) w:=by
 obtain⟨t,a0,u0⟩:=hA.t0
 obtain⟨u,d,a1,u1,hd⟩:=hA.t1
 have hr:=hS.read w fun _=>rfl
 have hroom':n+0≤cap:=by omega
 simp only[Builtin.append_,a0,a1,List.getElem?_toArray,List.getElem?_cons_zero,List.getElem?_cons_succ,Sem.run_bind,Cv u0,Cv u1,Result.andThen_ok,Gm hA.info,Sem.run_pure]
 cases d<;>first | (cases hd;done) | skip
 all_goals
  simp only[Bool.false_eq_true,if_false,hS.len w,Result.andThen_ok,if_pos hroom',Bool.not_false,if_true,Sem.run_bind,hr]
  cases base<;>simp[storeCells]
theorem Akp {H H':List HB} (hs:St F g H w) {tok:Tok} {els ys:List (List AV)} {s x:Value} {v:AV} {k:Nat} (hk0:0 < k) (hr:R F g w (.sl tok els) s) {ats:Array TypeId} {e ty:TypeId} {i:TypeInfo} (hA:Qn P ats e i) (hi:i.size=k) (hby:i.bytes≤1000)
 {z:Value} (hz:i.zero=some z) (hzl:z.cells.size=k) {news:List Value} (hS:Src P w k x ys.length news) (hl:news.length=ys.length * k) (hn:RL F g w ys.flatten news) (hc:ys.flatten.all AV.isCell=true) (hrows: ∀r ∈ ys,r.length=k)
 (he:C7 k e tok els ys H=some (v,H')): ∃u w' F' g',(Builtin.append_ ats ty #[s,x]).run P w= .ok u w'∧R F' g' w' v u∧St F' g' H' w'∧Ext F g H w F' g' H' w':=by
 subst hi
 unfold C7 at he
 split at he
 case isFalse=>cases he
 rename_i hcond
 obtain⟨hmax,hke,hky⟩:=hcond
 have hbig:(els.length+ys.length) * i.bytes≤140737488355328:=by
  have:(els.length+ys.length) * i.bytes≤A4 * 1000:=Nat.mul_le_mul hmax hby
  unfold A4 at this;omega
 have hcells:=Uw hn hc
 have out: ∀(te:TypeId) (t:Nat) (H2:List HB) (base:Option Addr) (cap:Nat),s= .slice base els.length cap→cap < els.length+ys.length→H2[t]? =some (.tok (els.length+ys.length) i.size te)→(te≠0→e=te)→(∀ y,y≠t→H2[y]? =H[y]?)→H.length≤H2.length→H2.length≤max H.length (t+1)→
  ((t=H.length)∨(∃ n0 c0,g.tk t=some (n0,c0)∧n0 < els.length+ys.length∧t < H.length)∨(g.blk t=none∧g.tk t=none))→
  ∃u w' F' g',(Builtin.append_ ats ty #[s,x]).run P w= .ok u w'∧R F' g' w' (.sl (.own t) (els++ys)) u∧St F' g' H2 w'∧Ext F g H w F' g' H2 w':=by
  intro te t H2 base cap hs0 hroom q1 hte q2 q3 q4 q5
  subst hs0
  obtain⟨olds,o1,o2,o3,o4,o5⟩:=src_sl (P:=P) hr hke
  obtain⟨nc,n1,n2⟩:=A0u (ty:=ty) hA hz hS o1 hroom hmax hbig
  have hsz:(olds.toArray++news.toArray++Builtin.zeroCells z.cells (nc - (els.length+ys.length))).size=nc * i.size:=by
   have:(Builtin.zeroCells z.cells (nc - (els.length+ys.length))).size=(nc - (els.length+ys.length)) * i.size:=by simp[Builtin.zeroCells,hzl]
   simp only[Array.size_append,List.size_toArray,this,o2,hl]
   rw[← Nat.add_mul,← Nat.add_mul]; congr 1;omega
  obtain⟨F',g',f0,f1,f2,f3,f4⟩:=Aom hs (w':={ w with drawn:=w.drawn+1,heap:=w.heap.push (.cells (olds.toArray++news.toArray++Builtin.zeroCells z.cells (nc - (els.length+ys.length))) e) }) q1 q2 q3 q4 q5 hte hsz n1 rfl ⟨rfl,rfl⟩
  refine⟨_,_,F',g',n2,?_,f1,f2⟩
  simp only[R,List.length_append]
  refine⟨hmax,.inr ⟨w.heap.size,0,none,nc,i.size,rfl,n1,⟨hk0,.inr rfl⟩,?_,⟨_,_,f4,Nat.le_refl _,fun _=>⟨f3,rfl,rfl,rfl⟩⟩⟩⟩
  refine O2 (vs:=olds++news) (fun r hr=>?_) ?_ ?_ fun j u hj=>⟨?_,f0 _ ?_⟩
  · rcases List.mem_append.1 hr with hr | hr
    · exact o5 r hr
    · exact hrows r hr
  · rw[List.flatten_append]; exact E0 (RL.mono f2.keeps _ _ o3) (RL.mono f2.keeps _ _ hn)
  · simp only[List.flatten_append,List.all_append,Bool.and_eq_true]; exact⟨o4,hc⟩
  · simp only[World.cell?,Kl,Option.isSome_none,Bool.false_eq_true,if_false,Nat.zero_add]
    have hj':=(List.getElem?_eq_some_iff.1 hj).1
    rw[← Array.getElem?_toList]
    simp only[Array.toList_append]
    rw[List.getElem?_append_left (by simpa using hj')]
    exact hj
  · have hj':=(List.getElem?_eq_some_iff.1 hj).1
    rw[List.length_append,o2,hl,← Nat.add_mul] at hj';omega
 have small:(∃ base cap,s= .slice base els.length cap∧cap=els.length)→Ha i.size e tok els H ys=some (v,H')→
  ∃u w' F' g',(Builtin.append_ ats ty #[s,x]).run P w= .ok u w'∧R F' g' w' v u∧St F' g' H' w'∧Ext F g H w F' g' H' w':=by
  intro hcap he
  obtain⟨base,cap,hs0,hcap⟩:=hcap
  cases ys with
  | nil=>
    simp only[Ha,Option.some.injEq,Prod.mk.injEq] at he
    obtain⟨rfl,rfl⟩:=he
    refine⟨s,w,F,g,?_,hr,hs,Ext.refl _ _ _ _⟩
    subst hs0
    have:news=[]:=by simpa using hl
    subst this
    exact Ane hA hS (by omega)
  | cons y ys=>
    simp only[Ha,Option.some.injEq,Prod.mk.injEq] at he
    obtain⟨rfl,rfl⟩:=he
    exact out e H.length _ base cap hs0 (by simp;omega) (by simp) (fun _=>rfl) (fun y hy=>by
     rcases Nat.lt_or_ge y H.length with h | h
     · exact List.getElem?_append_left h
     · rw[List.getElem?_eq_none (by simp;omega),List.getElem?_eq_none h]) (by simp) (by simp) (.inl rfl)
 cases tok with
 | own t=>
   simp only at he
   split at he
   · rename_i n k' e' hH
     split at he
     · rename_i hnk
       obtain⟨rfl,rfl⟩:=hnk
       simp only[Option.some.injEq,Prod.mk.injEq] at he
       obtain⟨rfl,rfl⟩:=he
       have htl:t < H.length:=(List.getElem?_eq_some_iff.1 hH).1
       obtain⟨B,cap,vs,el,fr,b1,b2,b3,b4,b5,b6⟩:=hs.tok t _ _ _ hH
       obtain⟨_,⟨_,_,h0,_⟩ | ⟨B',off,sp,cap',k',rfl,c1,c2,c3,m,c',c4,c5,c6⟩⟩:=Ep hr
       · exact absurd rfl (h0 t)
       rw[b2] at c4;cases c4
       obtain⟨d1,d2,d3,d4⟩:=c6 rfl
       simp only at d1 d2 d4;rw[b1] at d1;cases d1;subst d2;subst d3;subst d4
       rcases Nat.lt_or_ge cap' (els.length+ys.length) with hlt | hge
       · refine out (if e'=e then e else 0) t _ _ _ rfl hlt (List.getElem?_set_self htl) (by by_cases c:e'=e<;>simp[c]) (fun y hy=>List.getElem?_set_ne (Ne.symm hy)) (by simp) (by simp;omega) (.inr (.inl ⟨_,_,b2,by omega,htl⟩))
       · obtain⟨w',r1,r2,r3,r4,r5⟩:=Az5 (ty:=ty) hA hS (vs:=vs.toList) (by simpa using b3) hcells (by
          have:(els.length+ys.length) * i.size≤cap' * i.size:=Nat.mul_le_mul_right _ hge
          rw[Nat.add_mul] at this
          simp only[Array.length_toList]; omega) b4.1 hge
         obtain⟨F',g',f0,f1,f2,f3,f4⟩:=arr_in hs hH b1 b2 (vs:=vs.toList) (ty':=if e'=e then e else 0) (by by_cases c:e'=e<;>simp[c]; exact c ▸ b4.2.2.1) (by simpa using b3) (by simpa using b4.2.1) b4.1 hge hl b6 r2 r3 r4 r5
         refine⟨_,w',F',g',r1,?_,f1,f2⟩
         simp only[R,List.length_append]
         refine⟨hmax,.inr ⟨B,0,none,cap',i.size,rfl,hge,⟨hk0,.inr rfl⟩,Aik ?_ ?_,⟨_,_,f4,Nat.le_refl _,fun _=>⟨f3,rfl,rfl,rfl⟩⟩⟩⟩
         · rcases Z7 c3 hke with rfl | rfl
           · simp[RE]
           · exact RE.mono f2.keeps _ _ _ _ c3
         · refine O2 hrows (RL.mono f2.keeps _ _ hn) hc fun j u hj=>?_
           have hj':=(List.getElem?_eq_some_iff.1 hj).1
           have hmul:(els.length+ys.length) * i.size=els.length * i.size+ys.length * i.size:=Nat.add_mul _ _ _
           have hcapk:(els.length+ys.length) * i.size≤cap' * i.size:=Nat.mul_le_mul_right _ hge
           refine⟨?_,f0 _ (by omega)⟩
           simp only[World.cell?,r3,Option.isSome_none,Bool.false_eq_true,if_false,Nat.zero_add,Gt,List.getElem?_toArray]
           have hvl:vs.toList.length=cap' * i.size:=by simpa using b4.2.1
           rw[List.append_assoc,List.getElem?_append_right (by rw[List.length_take]; omega),List.length_take,Nat.min_eq_left (by omega),List.getElem?_append_left (by omega)]
           rw[show els.length * i.size+j - els.length * i.size=j by omega]; exact hj
     · cases he
   · cases he
 | tight=>
   exact small (by
    obtain⟨_,⟨rfl,rfl,h0,_⟩ | ⟨B',off,sp,cap',k',rfl,c1,c2,c3,c4⟩⟩:=Ep hr
    · exact⟨none,0,rfl,rfl⟩
    · exact⟨_,_,rfl,c4⟩) he
 | nilT=>
   exact small (by
    obtain⟨_,⟨rfl,rfl,h0,_⟩ | ⟨B',off,sp,cap',k',rfl,c1,c2,c3,c4⟩⟩:=Ep hr
    · exact⟨none,0,rfl,rfl⟩
    · exact c4.elim) he
 | none=>cases he
 | nn=>cases he
 | lazy t=>
   have hcap:s= .slice none els.length 0∧els.length=0:=by
    obtain⟨_,⟨rfl,rfl,h0,_⟩ | ⟨B',off,sp,cap',k',rfl,c1,c2,c3,c4⟩⟩:=Ep hr
    · exact⟨rfl,rfl⟩
    · exact c4.elim
   cases ys with
   | nil=>
     simp only[Option.some.injEq,Prod.mk.injEq] at he
     obtain⟨rfl,rfl⟩:=he
     refine⟨s,w,F,g,?_,hr,hs,Ext.refl _ _ _ _⟩
     have:news=[]:=by simpa using hl
     subst this
     rw[hcap.1,hcap.2]
     exact Ane hA hS (by omega)
   | cons y ys=>
     simp only at he
     split at he
     · rename_i ks hH
       split at he
       · rename_i hks
         simp only[Option.some.injEq,Prod.mk.injEq] at he
         obtain⟨rfl,rfl⟩:=he
         have htl:t < H.length:=(List.getElem?_eq_some_iff.1 hH).1
         rcases hs.mp t _ hH with⟨_,q1,q2⟩ | ⟨B,es,ck,_,_,_,hok⟩
         · exact out e t _ none 0 hcap.1 (by simp only[List.length_cons]; omega) (List.getElem?_set_self htl) (fun _=>rfl) (fun y hy=>List.getElem?_set_ne (Ne.symm hy)) (by simp) (by simp;omega) (.inr (.inr ⟨q1,q2⟩))
         · have:=hok.lt Gb (by rw[hks]; simp[D1])
           omega
       · cases he
     · cases he
section
variable {H H':List HB} {t:List AV} {a:Act} {o:Oper} {v:AV} (hs:St F g H w) (ht:Tm F g w t a)
include hs ht
theorem Axx {c:Call} {x x':Operand} {y y':AR} {ty u e:TypeId} {d:TypeDesc} {i:TypeInfo} {z:List AV} (ho:o.op= .call c) (hb:c.callee= .builtin .append) (ha:c.args.toList=[x,x']) (hty:c.argTypes.toList=[ty,u]) (h1:P.underlying ty=some (.slice e)) (hd:(d matches .int _)=false) (h2:P.underlying u=some d)
 (hi:P.info? e=some i) (hz:E4 P e=some z) (hc:0 < i.size∧z.length=i.size∧i.bytes≤1000) (hx:cvX x=some y) (hx':cvX x'=some y') (he:Ar (.append i.size e y y') (aev t) H=some (v,H')):Bq P o a F g H w v H':=by
 have hr:=Cm ht hx
 have hr':=Cm ht hx'
 obtain⟨i',zv,q1,q2,q3⟩:=S6 hz
 rw[hi] at q1;cases q1
 have hzl:=Dh (q3 F g w)
 simp only[Array.length_toList] at hzl
 have hA:Qn P c.argTypes e i:=⟨⟨ty,by rw[← Array.getElem?_toList,hty]; rfl,h1⟩,⟨u,d,by rw[← Array.getElem?_toList,hty]; rfl,h2,hd⟩,hi⟩
 have hargs:c.args= #[x,x']:=by apply Array.ext';simpa using ha
 simp only[Ar] at he
 split at he
 · rename_i tok els tok' ys p1 p2
   rw[p1] at hr;rw[p2] at hr'
   have hk:C0 i.size ys=true:=by
    unfold C7 at he
    split at he
    · rename_i h;exact h.2.2
    · cases he
   obtain⟨news,n1,n2,n3,n4,n5⟩:=src_sl (P:=P) hr' hk
   obtain⟨r,w',F',g',e1,e2,e3,e4⟩:=Akp (ty:=o.type) hs hc.1 hr hA rfl hc.2.2 q2 (by omega) n1 n2 n3 n4 n5 he
   exact⟨.value r,w',F',g',Me ho hb (args:=#[a.eval x,a.eval x']) (by simp[hargs]) (M9 _ _ _ e1),.inl ⟨r,rfl,e2⟩,e3,e4⟩
 · cases he
theorem Axb {c:Call} {x x':Operand} {y y':AR} {ty u e:TypeId} {i:TypeInfo} {z:List AV} (ho:o.op= .call c) (hb:c.callee= .builtin .append) (ha:c.args.toList=[x,x']) (hty:c.argTypes.toList=[ty,u]) (h1:P.underlying ty=some (.slice e)) (h2:P.underlying u=some .string)
 (hi:P.info? e=some i) (hz:E4 P e=some z) (hc:i.size=1∧z.length=1∧i.bytes≤1000) (hx:cvX x=some y) (hx':cvX x'=some y') (he:Ar (.appendS e y y') (aev t) H=some (v,H')):Bq P o a F g H w v H':=by
 have hr:=Cm ht hx
 have hr':=Cm ht hx'
 obtain⟨i',zv,q1,q2,q3⟩:=S6 hz
 rw[hi] at q1;cases q1
 have hzl:=Dh (q3 F g w)
 simp only[Array.length_toList] at hzl
 have hA:Qn P c.argTypes e i:=⟨⟨ty,by rw[← Array.getElem?_toList,hty]; rfl,h1⟩,⟨u,.string,by rw[← Array.getElem?_toList,hty]; rfl,h2,rfl⟩,hi⟩
 have hargs:c.args= #[x,x']:=by apply Array.ext';simpa using ha
 simp only[Ar] at he
 split at he
 · rename_i tok els s p1 p2
   rw[p1] at hr;rw[p2] at hr'
   obtain⟨news,n1,n2,n3,n4,n5⟩:=src_str (P:=P) hr'
   obtain⟨r,w',F',g',e1,e2,e3,e4⟩:=Akp (ty:=o.type) hs (by omega) hr hA hc.1 hc.2.2 q2 (by omega) n1 n2 n3 n4 n5 he
   exact⟨.value r,w',F',g',Me ho hb (args:=#[a.eval x,a.eval x']) (by simp[hargs]) (M9 _ _ _ e1),.inl ⟨r,rfl,e2⟩,e3,e4⟩
 · cases he
end
end
end Go.Proofs.YtemdkfnenjpioaaGreatDoor
namespace Go.Proofs.YtemdkfnenjpioaaGreatDoor
open Go
theorem An1 {F:Addr→Prop} {g:Gh} {w:World} : ∀(l:List UInt8),RL F g w (l.map fun c=>[AV.int .u8 c.toNat]).flatten (l.map fun c=>Value.int .u8 c.toNat)
 | []=>by simp[RL]
 | c :: l=>by
   simp only[List.map_cons,List.flatten_cons,List.cons_append,List.nil_append,RL]
   exact⟨_,_,rfl,by simp only[R]; exact⟨trivial,by have:=c.toNat_lt;unfold IntKind.has IntKind.min IntKind.max IntKind.signed IntKind.bits;simp;omega⟩,An1 l⟩
theorem Auk {α :Type} (xs:Array α) (a: α) (f: α→α):(xs.push a).modify xs.size f=xs.push (f a):=by
 apply Array.ext
 · simp
 · intro i h1 h2
   simp only[Array.size_modify,Array.size_push] at h1
   rw[Array.getElem_modify]
   rcases Nat.lt_or_ge i xs.size with h | h
   · rw[if_neg (by omega),Array.getElem_push_lt h,Array.getElem_push_lt h]
   · have:i=xs.size:=by omega
     subst this
     simp
theorem Auj (P:Program) (w:World) (cs:Array Value) (e:TypeId) (d:Nat):(markStringish ⟨w.heap.size,0,none⟩).run P { w with heap:=w.heap.push (.cells cs e),drawn:=d } = .ok () { w with heap:=w.heap.push (.cells cs e (cs.size,cs.size+1)),drawn:=d }:=by
 have hsh:World.shape? { w with heap:=w.heap.push (.cells cs e),drawn:=d } w.heap.size=some (e,cs.size):=by
  simp[World.shape?]
 simp only[markStringish,Sem.run_bind,run_shape,hsh,Result.andThen_ok,run_freeze,World.freeze]
 simp only[Nat.one_ne_zero,if_false]
 rw[Auk]
 simp
section
variable {F:Addr→Prop} {g:Gh} {w:World} {P:Program} {H H':List HB} {t:List AV} {a:Act} {o:Oper} {v:AV} (hs:St F g H w) (ht:Tm F g w t a)
include hs
theorem A0i {ty e:TypeId} {parts:Array (Nat × Operand)} {i:TypeInfo} (ho:o.op= .buildSlice ty 0 parts) (hp:parts.toList=[]) (h1:P.underlying ty=some (.slice e)) (hi:P.info? e=some i) (he:Ar .emptySl (aev t) H=some (v,H')):Bq P o a F g H w v H':=by
 simp only[Ar,Option.some.injEq,Prod.mk.injEq] at he
 obtain⟨rfl,rfl⟩:=he
 let w':World:={ w with heap:=w.heap.push (.cells #[] e) }
 obtain⟨s1,s2⟩:=Vu hs (ob:=.cells #[] e) (w':=w') rfl ⟨rfl,rfl⟩
 have hp':parts= #[]:=by apply Array.ext';simpa using hp
 refine⟨.value (.slice (some ⟨w.heap.size,0,none⟩) 0 0),w',_,g,?_,.inl ⟨_,rfl,?_⟩,s1,s2⟩
 · subst hp'
   simp only[execOp,ho,Instr.buildSlice,Sem.run_bind,Cv h1,Result.andThen_ok,Gm hi,Nat.zero_mul,if_neg (show ¬(0:Nat) > 2 ^ 24 by decide),if_true,Sem.run_pure]
   have hr0:Array.range 0= #[]:=rfl
   simp[Instr.fill,newRow,w',hr0]
 · simp only[R]
   exact⟨Nat.zero_le _,.inr ⟨_,_,_,0,1,rfl,Nat.le_refl _,⟨by omega,.inr rfl⟩,by simp[RE],rfl⟩⟩
theorem Ax6 {ty e:TypeId} {n m:Int} {z:List AV} {i:TypeInfo} (ho:o.op= .makeSlice ty (.const (.int .i64 n)) (.const (.int .i64 m))) (h1:P.underlying ty=some (.slice e)) (hi:P.info? e=some i) (h2:E4 P e=some z)
 (hsz:0 < i.size∧z.length=i.size∧0 < n∧n≤1000∧m=n∧i.bytes≤1000) (he:Ar (.makeSl i.size z n.toNat) (aev t) H=some (v,H')):Bq P o a F g H w v H':=by
 obtain⟨z1,z2,z3,z4,rfl,z5⟩:=hsz
 have h2':=h2
 unfold E4 at h2'
 rw[hi] at h2'
 simp only at h2'
 cases hzv:i.zero with
 | none=>rw[hzv] at h2';cases h2'
 | some zv=>
   rw[hzv] at h2'
   simp only at h2'
   have hzR:RL F g w z zv.cells.toList:=Qv h2'
   have hzl:=Dh hzR
   simp only[Array.length_toList] at hzl
   simp only[Ar,Option.some.injEq,Prod.mk.injEq] at he
   obtain⟨rfl,rfl⟩:=he
   have hrep: ∀n,RL F g w (List.replicate n z).flatten (List.replicate n zv.cells.toList).flatten:=by
    intro n
    induction n with
    | zero=>simp[RL]
    | succ n ih=>simp only[List.replicate_succ,List.flatten_cons]; exact E0 hzR ih
   have hrepc: ∀n,(List.replicate n z).flatten.all AV.isCell=true:=by
    intro n
    induction n with
    | zero=>simp
    | succ n ih=>simp only[List.replicate_succ,List.flatten_cons,List.all_append,Bool.and_eq_true]; exact⟨Aek h2',ih⟩
   have hw:IntKind.i64.wrap m=m:=by unfold IntKind.wrap IntKind.signed IntKind.bits;simp;omega
   let w':World:={ w with heap:=w.heap.push (.cells ((Array.range (m.toNat * i.size)).map (fun x=>zv.cells[x % zv.cells.size]!)) e) }
   obtain⟨s1,s2⟩:=Vu hs (ob:=.cells ((Array.range (m.toNat * i.size)).map (fun x=>zv.cells[x % zv.cells.size]!)) e) (w':=w') rfl ⟨rfl,rfl⟩
   refine⟨.value (.slice (some ⟨w.heap.size,0,none⟩) m.toNat m.toNat),w',_,g,?_,.inl ⟨_,rfl,?_⟩,s1,s2⟩
   · have hby: ¬((i.bytes:Int) * m > 2 ^ 48):=by
      have:(i.bytes:Int) * m≤1000 * 1000:=Int.mul_le_mul (by omega) z4 (by omega) (by omega)
      omega
     have hm0: ¬m < 0:=by omega
     have hc:((decide (m < 0) || decide ((i.bytes:Int) * m > 2 ^ 48)) || decide (m < 0) || decide (m > m))=false:=by simp;omega
     have hne0: ¬m.toNat * i.size=0:=by
      have:=Nat.mul_pos (show 0 < m.toNat by omega) z1;omega
     simp only[execOp,ho,Instr.makeSlice,Act.eval,asInt,asIntOf,Sem.run_bind,Cv h1,Result.andThen_ok,Uv hi,Sem.run_pure,hw,hc,Bool.false_eq_true,if_false,run_askRoom,Gm hi,if_neg hne0,O4 hi hzv,newRow]
     rfl
   · simp only[R,List.length_replicate]
     refine⟨by unfold A4;omega,.inr ⟨w.heap.size,0,none,m.toNat,i.size,rfl,Nat.le_refl _,⟨z1,.inr rfl⟩,?_,rfl⟩⟩
     refine O2 (vs:=(List.replicate m.toNat zv.cells.toList).flatten) (fun r hr=>by rw[List.eq_of_mem_replicate hr]; exact z2) (RL.mono s2.keeps _ _ (hrep _)) (hrepc _) fun j u hj=>⟨?_,.inr ⟨rfl,rfl⟩⟩
     have hn:w'.heap[w.heap.size]? =some (.cells ((Array.range (m.toNat * i.size)).map (fun x=>zv.cells[x % zv.cells.size]!)) e):=Kl w _
     simp only[World.cell?,hn,Option.isSome_none,Bool.false_eq_true,if_false,Nat.zero_add]
     rw[← Array.getElem?_toList,Ak1 zv.cells i.size m.toNat (by omega) z1]
     exact hj
include ht
theorem Ari {s d e:TypeId} {x:Operand} {y:AR} (ho:o.op= .convert s d x) (h1:P.underlying s=some .string) (h2:P.underlying d=some (.slice e)) (h3:P.underlying e=some (.int .u8)) (hx:cvX x=some y) (he:Ar (.convSB y) (aev t) H=some (v,H')):Bq P o a F g H w v H':=by
 have hr:=Cm ht hx
 simp only[Ar] at he
 split at he
 · rename_i l hl
   simp only[Option.some.injEq,Prod.mk.injEq] at he
   obtain⟨rfl,rfl⟩:=he
   rw[hl] at hr
   obtain⟨e1,e2⟩:=Jv hr
   let cap:=(Question.appendCap l.length 0 e).cut (w.tape w.drawn (.appendCap l.length 0 e))
   have hcap:l.length≤cap:=by show _≤Question.cut _ _;simp only[Question.cut]; omega
   let cs:Array Value:=(l.toArray.map fun b=>Value.int .u8 b.toNat)++Array.replicate (cap - l.length) (.int .u8 0)
   let w':World:={ w with drawn:=w.drawn+1,heap:=w.heap.push (.cells cs e (cs.size,cs.size+1)) }
   obtain⟨s1,s2⟩:=Vu hs (ob:=.cells cs e (cs.size,cs.size+1)) (w':=w') rfl ⟨rfl,rfl⟩
   refine⟨.value (.slice (some ⟨w.heap.size,0,none⟩) l.length cap),w',_,g,?_,.inl ⟨_,rfl,?_⟩,s1,s2⟩
   · simp only[execOp,ho,convert,e1,Sem.run_bind,Cv h1,Cv h2,Cv h3,Result.andThen_ok,Conv.stringToBytes,run_choose,Question.forced,Bool.false_eq_true,if_false,newRow,run_newObj,Sem.run_pure,Auj]
     rfl
   · simp only[R,List.length_map]
     refine⟨e2,.inr ⟨w.heap.size,0,none,cap,1,rfl,hcap,⟨by omega,.inr rfl⟩,?_,trivial⟩⟩
     refine O2 (vs:=l.map fun c=>Value.int .u8 c.toNat) (by simp) ?_ (by simp[List.all_flatten,AV.isCell]) fun j u hj=>⟨?_,.inr ⟨rfl,rfl⟩⟩
     · exact An1 l
     · have hn:w'.heap[w.heap.size]? =some (.cells cs e (cs.size,cs.size+1)):=Kl w _
       simp only[World.cell?,hn,Option.isSome_none,Bool.false_eq_true,if_false,Nat.zero_add]
       have hj':=(List.getElem?_eq_some_iff.1 hj).1
       rw[← Array.getElem?_toList]
       simp only[cs,Array.toList_append,Array.toList_map]
       rw[List.getElem?_append_left (by simpa using hj')]
       exact hj
 · cases he
end
end Go.Proofs.YtemdkfnenjpioaaGreatDoor
namespace Go.Proofs.YtemdkfnenjpioaaGreatDoor
open Go
theorem push_map {F:Addr→Prop} {g:Gh} {H:List HB} {w w':World} (hs:St F g H w) (hw:w'.heap=w.heap.push (.map #[] 0)) (hio:w'.os=w.os∧w'.output=w.output):
 ∃g',St F g' (H++[.mp []]) w'∧Ext F g H w F g' (H++[.mp []]) w'∧R F g' w' (.mapv H.length) (.map (some w.heap.size)):=by
 let g':Gh:=⟨fun b=>if b=H.length then some w.heap.size else g.blk b,g.tk⟩
 have hlt: ∀b,b < w.heap.size→w'.heap[b]? =w.heap[b]?:=fun b hb=>by rw[hw]; exact K0 w _ b hb
 have hz:w'.heap.size=w.heap.size+1:=by rw[hw]; simp
 have hnew:w'.heap[w.heap.size]? =some (.map #[] 0):=by rw[hw]; exact Kl w _
 have hK:Cr F g w F g' w':=by
  refine⟨fun _ h=>h,fun a ha=>Fs (hlt _ (hs.live a ha)),⟨fun b B h1 h2=>?_,fun t m c h=>⟨m,c,h,Nat.le_refl _,fun _=>⟨rfl,?_⟩⟩⟩⟩
  · have:=hs.lt h1
    exact⟨by show (if b=H.length then _ else _)=_;rw[if_neg (by omega)]; exact h1,h2⟩
  · have:t≠H.length:=fun e=>by have:=(hs.beyond t (by omega)).2;rw[this] at h;cases h
    show (if t=H.length then _ else _)=_
    rw[if_neg this]
 have old: ∀(b:Nat) (x:HB),(H++[HB.mp []])[b]? =some x→(b < H.length∧H[b]? =some x)∨(b=H.length∧x= .mp []):=fun b x hb=>by
  rcases Nat.lt_or_ge b H.length with hl | hl
  · rw[List.getElem?_append_left hl] at hb;exact .inl ⟨hl,hb⟩
  · right
    rw[List.getElem?_append_right hl] at hb
    have hbl:b - H.length=0:=by
     rcases Nat.eq_zero_or_pos (b - H.length) with h | h
     · exact h
     · rw[List.getElem?_eq_none (by simp only[List.length_singleton]; omega)] at hb;cases hb
    rw[hbl] at hb
    simp only[List.getElem?_cons_zero,Option.some.injEq] at hb
    exact⟨by omega,hb.symm⟩
 have gb: ∀b,b < H.length→g'.blk b=g.blk b:=fun b hb=>by show (if b=H.length then _ else _)=_;rw[if_neg (by omega)]
 refine⟨g',⟨fun a ha=>?_,fun b hb=>?_,fun b b' B h1 h2=>?_,fun b cs' hb=>?_,fun t n k ty ht=>?_,hs.spots,fun b e' cs' hb=>?_,fun b ks hb=>?_⟩,⟨fun _ h=>h,hK.keep,hK.gh,?_,fun B hB _=>hlt B hB,fun a h=>.inl h,fun b B hb h=>?_,by simp,hio⟩,?_⟩
 · have:=hs.live a ha;omega
 · simp only[List.length_append,List.length_singleton] at hb
   have:=hs.beyond b (by omega)
   exact⟨by show (if b=H.length then _ else _)=_;rw[if_neg (by omega)]; exact this.1,this.2⟩
 · have h1':(if b=H.length then some w.heap.size else g.blk b)=some B:=h1
   have h2':(if b'=H.length then some w.heap.size else g.blk b')=some B:=h2
   split at h1'<;>split at h2'
   · omega
   · simp only[Option.some.injEq] at h1';have:=hs.blk_lt h2';omega
   · simp only[Option.some.injEq] at h2';have:=hs.blk_lt h1';omega
   · exact hs.inj b b' B h1' h2'
 · rcases old b _ hb with⟨hl,hb⟩ | ⟨_,h⟩
   · obtain⟨B,us,e',h1,h2,h3,h4,h5⟩:=hs.var b cs' hb
     exact⟨B,us,e',(gb b hl).trans h1,h2,(hlt B (B9 h3)).trans h3,RL.mono hK _ _ h4,h5⟩
   · cases h
 · rcases old t _ ht with⟨hl,ht⟩ | ⟨_,h⟩
   · obtain⟨B,cap,us,e',fr,h1,h2,h3,h4,h5,h6⟩:=hs.tok t n k _ ht
     exact⟨B,cap,us,e',fr,(gb t hl).trans h1,h2,(hlt B (B9 h3)).trans h3,h4,h5,h6⟩
   · cases h
 · rcases old b _ hb with⟨hl,hb⟩ | ⟨_,h⟩
   · obtain⟨B,us,h1,h2,h3,h4,h5⟩:=hs.tvar b e' cs' hb
     exact⟨B,us,(gb b hl).trans h1,h2,(hlt B (B9 h3)).trans h3,RL.mono hK _ _ h4,h5⟩
   · cases h
 · rcases old b _ hb with⟨hl,hb⟩ | ⟨rfl,h⟩
   · rcases hs.mp b _ hb with⟨h0,h1,h2⟩ | ⟨B,es,ck,h1,h2,h3,h4⟩
     · exact .inl ⟨h0,(gb b hl).trans h1,h2⟩
     · exact .inr ⟨B,es,ck,(gb b hl).trans h1,h2,(hlt B (B9 h3)).trans h3,h4⟩
   · cases h
     refine .inr ⟨w.heap.size,#[],0,?_,(hs.beyond _ (Nat.le_refl _)).2,hnew,⟨Go.MapKept.stamped_empty 0,by simp,by simp⟩⟩
     show (if H.length=H.length then _ else _)=_;rw[if_pos rfl]
 · omega
 · have h':(if b=H.length then some w.heap.size else g.blk b)=some B:=h
   split at h'
   · simp only[Option.some.injEq] at h';right;omega
   · left;exact⟨hs.lt h',h'⟩
 · simp only[R]
   refine⟨w.heap.size,?_,(hs.beyond _ (Nat.le_refl _)).2,rfl⟩
   show (if H.length=H.length then _ else _)=_;rw[if_pos rfl]
theorem put_map {F:Addr→Prop} {g:Gh} {H:List HB} {w w':World} (hs:St F g H w) {b B:Nat} {es es':Array MapEntry} {ck ck':Nat} {ks ks':List Nat} (hb:H[b]? =some (.mp ks)) (hB:g.blk b=some B) (h0:w.heap[B]? =some (.map es ck))
 (hz:w'.heap.size=w.heap.size) (hn:w'.heap[B]? =some (.map es' ck')) (hok:Hj es' ck' ks') (ho: ∀x,x≠B→w'.heap[x]? =w.heap[x]?) (hio:w'.os=w.os∧w'.output=w.output):
 St F g (H.set b (.mp ks')) w'∧Ext F g H w F g (H.set b (.mp ks')) w':=by
 have hbl:=hs.lt hB
 have hK:Cr F g w F g w':=⟨fun _ h=>h,fun a ha=>by
  by_cases e:a.block=B
  · simp only[World.cell?,e,h0,hn]
  · exact Fs (ho _ e),Gh.le_refl g⟩
 have other: ∀(x:Nat) (y:HB),(H.set b (.mp ks'))[x]? =some y→(x=b∧y= .mp ks')∨(x≠b∧H[x]? =some y):=fun x y h=>by
  by_cases e:x=b
  · subst e;rw[List.getElem?_set_self hbl] at h;cases h;exact .inl ⟨rfl,rfl⟩
  · rw[List.getElem?_set_ne (Ne.symm e)] at h;exact .inr ⟨e,h⟩
 refine⟨⟨fun a ha=>by rw[hz]; exact hs.live a ha,fun x hx=>hs.beyond x (by simpa using hx),hs.inj,fun x cx hx=>?_,fun t n k ty ht=>?_,hs.spots,fun x ex cx hx=>?_,fun x kx hx=>?_⟩,⟨fun _ h=>h,hK.keep,hK.gh,by omega,fun x hx hnx=>ho x (fun e=>hnx b hbl (by rw[hB,e])),fun a h=>.inl h,fun x X hx h=>.inl ⟨by simpa using hx,h⟩,by simp,hio⟩⟩
 · rcases other x _ hx with⟨_,h⟩ | ⟨hne,hx⟩
   · cases h
   obtain⟨X,us,ex,h1,h2,h3,h4,h5⟩:=hs.var x cx hx
   have:X≠B:=fun e=>hne (hs.inj x b X h1 (by rw[hB,e]))
   exact⟨X,us,ex,h1,h2,(ho X this).trans h3,RL.mono hK _ _ h4,h5⟩
 · rcases other t _ ht with⟨_,h⟩ | ⟨hne,ht⟩
   · cases h
   obtain⟨X,cap,us,ex,fr,h1,h2,h3,h4,h5,h6⟩:=hs.tok t n k _ ht
   have:X≠B:=fun e=>hne (hs.inj t b X h1 (by rw[hB,e]))
   exact⟨X,cap,us,ex,fr,h1,h2,(ho X this).trans h3,h4,h5,h6⟩
 · rcases other x _ hx with⟨_,h⟩ | ⟨hne,hx⟩
   · cases h
   obtain⟨X,us,h1,h2,h3,h4,h5⟩:=hs.tvar x ex cx hx
   have:X≠B:=fun e=>hne (hs.inj x b X h1 (by rw[hB,e]))
   exact⟨X,us,h1,h2,(ho X this).trans h3,RL.mono hK _ _ h4,h5⟩
 · rcases other x _ hx with⟨rfl,h⟩ | ⟨hne,hx⟩
   · cases h;exact .inr ⟨B,es',ck',hB,by
      rcases hs.mp x _ hb with⟨_,_,h2⟩ | ⟨X,es2,ck2,h1,h2,h3,h4⟩
      · exact h2
      · exact h2,hn,hok⟩
   rcases hs.mp x _ hx with q | ⟨X,es2,ck2,h1,h2,h3,h4⟩
   · exact .inl q
   · have:X≠B:=fun e=>hne (hs.inj x b X h1 (by rw[hB,e]))
     exact .inr ⟨X,es2,ck2,h1,h2,(ho X this).trans h3,h4⟩
theorem R_mapv {F:Addr→Prop} {g:Gh} {w:World} {b:Nat} {v:Value} (h:R F g w (.mapv b) v): ∃B,g.blk b=some B∧v= .map (some B):=by
 simp only[R] at h
 obtain⟨B,h1,_,h2⟩:=h
 exact⟨B,h1,h2⟩
section
variable {F:Addr→Prop} {g:Gh} {w:World} {P:Program} {H H':List HB} {t:List AV} {a:Act} {o:Oper} {v:AV} (hs:St F g H w) (ht:Tm F g w t a)
include hs
theorem ok_mkmap {ty:TypeId} (ho:o.op= .makeMap ty none) (he:Ar .mkmap (aev t) H=some (v,H')):Bq P o a F g H w v H':=by
 simp only[Ar,Option.some.injEq,Prod.mk.injEq] at he
 obtain⟨rfl,rfl⟩:=he
 obtain⟨g',e1,e2,e3⟩:=push_map hs (w':=w.alloc (.map #[] 0)) rfl ⟨rfl,rfl⟩
 refine⟨.value (.map (some w.heap.size)),_,F,g',?_,.inl ⟨_,rfl,e3⟩,e1,e2⟩
 simp only[execOp,ho,Option.map_none,Sem.run_bind,show (Instr.makeMap ty none).run P w= .ok (.map (some w.heap.size)) (w.alloc (.map #[] 0)) from rfl,Result.andThen_ok,Sem.run_pure]
include ht
theorem A1n {ty:TypeId} {m k x:Operand} {m' k':AR} (ho:o.op= .mapUpdate ty m k x) (hty:Vv P ty=true) (hm:cvX m=some m') (hk:cvX k=some k') (he:Ar (.mapset m' k') (aev t) H=some (v,H')):Bq P o a F g H w v H':=by
 obtain⟨kt,et,u1,u2⟩: ∃kt et,P.underlying ty=some (.map kt et)∧P.underlying kt=some (.int .i64):=by
  unfold Vv at hty
  split at hty
  · rename_i kt et h1
    split at hty
    · rename_i h2;exact⟨_,_,h1,h2⟩
    · cases hty
  · cases hty
 have hrm:=Cm ht hm
 have hrk:=Cm ht hk
 simp only[Ar] at he
 split at he
 · rename_i b n q1 q2
   rw[q1] at hrm
   rw[q2] at hrk
   split at he
   · rename_i ks hb
     split at he
     · rename_i hn
       simp only[Option.some.injEq,Prod.mk.injEq] at he
       obtain⟨rfl,rfl⟩:=he
       obtain⟨B,hB,hvm⟩:=R_mapv hrm
       obtain⟨B',es,ck,p1,p2,p3,p4⟩: ∃B es ck,g.blk b=some B∧g.tk b=none∧w.heap[B]? =some (.map es ck)∧Hj es ck ks:=by
        rcases hs.mp b _ hb with⟨_,q,_⟩ | q
        · rw[hB] at q;cases q
        · exact q
       rw[hB] at p1;cases p1
       simp only[R] at hrk
       obtain⟨hvk,_⟩:=hrk
       have hkey:Go.MapKept.IsKey (.int .i64) (.int .i64 n):=rfl
       have hmem: ∀k:Nat,k ∈ ks↔∃x ∈ es.toList,x.key= .int .i64 k:=fun k=>by
        constructor
        · intro hk
          have:(Value.int .i64 k) ∈ es.toList.map (·.key):=by rw[p4.key]; exact List.mem_map.2 ⟨k,hk,rfl⟩
          exact List.mem_map.1 this
        · rintro⟨x,hx,e⟩
          have:x.key ∈ ks.map (fun n:Nat=>Value.int .i64 n):=by rw[← p4.key]; exact List.mem_map.2 ⟨x,hx,rfl⟩
          obtain⟨k',hk',e'⟩:=List.mem_map.1 this
          rw[e] at e'
          simp only[Value.int.injEq,true_and] at e'
          rw[show k=k' by omega]; exact hk'
       have hks: ∀x ∈ es.toList,Go.MapKept.IsKey (.int .i64) x.key:=fun x hx=>by
        have:x.key ∈ ks.map (fun n:Nat=>Value.int .i64 n):=by rw[← p4.key]; exact List.mem_map.2 ⟨x,hx,rfl⟩
        obtain⟨k',hk',e'⟩:=List.mem_map.1 this
        rw[← e']; rfl
       obtain⟨m,rfl⟩: ∃m:Nat,n=m:=⟨n.toNat,(Int.toNat_of_nonneg hn.1).symm⟩
       have hm:m < Gb:=by have:=hn.2;omega
       simp only[Int.toNat_natCast]
       have hrun: ∃w2,(Instr.mapUpdate ty (.map (some B)) (.int .i64 m) (a.eval x)).run P w= .ok () w2∧w2.heap.size=w.heap.size∧(∃ es' ck',w2.heap[B]? =some (.map es' ck')∧Hj es' ck' (Iu m ks))∧(∀ x,x≠B→w2.heap[x]? =w.heap[x]?)∧w2.os=w.os∧w2.output=w.output:=by
        rcases Go.MapKept.findNow_spec hkey es.toList 0 hks with⟨h1,h2⟩ | ⟨j,e,h1,h2,h3⟩
        · have hni:m ∉ ks:=fun h=>by
           obtain⟨x,hx,e⟩:=(hmem m).1 h
           exact h2 x hx e
          refine⟨{ w with heap:=w.heap.setIfInBounds B (.map (es.push { key:=.int .i64 m,val:=a.eval x,born:=ck }) (ck+1)) },by simp only[Instr.mapUpdate,Sem.run_bind,Cv u1,Result.andThen_ok,Go.MapKept.run_getObj_map p3,Go.MapKept.run_checkKey u2 hkey,Go.MapKept.run_findKey u2 h1,Go.MapKept.run_setObj_map _ p3],by simp,⟨_,_,(Go.MapKept.heap_set p3).1,⟨Go.MapKept.stamped_push p4.stamped h2,?_,fun y hy=>?_⟩⟩,fun r' hne=>(Go.MapKept.heap_set p3).2 r' hne,rfl,rfl⟩
          · simp[Iu,hni,p4.key]
          · simp only[Iu,hni,if_false,List.mem_append,List.mem_singleton] at hy
            rcases hy with hy | rfl
            · exact p4.lt y hy
            · exact hm
        · have hj:es[j]? =some e:=by simpa using h2
          have hin:m ∈ ks:=(hmem m).2 ⟨e,List.mem_of_getElem? h2,h3⟩
          have hkey2: ∀e',es[j]? =some e'→({ e' with key:=.int .i64 m,val:=a.eval x } :MapEntry).key=e'.key:=fun e' he'=>by rw[hj] at he';cases he';exact h3.symm
          have hadd:Iu m ks=ks:=by simp[Iu,hin]
          refine⟨{ w with heap:=w.heap.setIfInBounds B (.map (es.modify j fun e=>{ e with key:=.int .i64 m,val:=a.eval x }) ck) },by simp only[Instr.mapUpdate,Sem.run_bind,Cv u1,Result.andThen_ok,Go.MapKept.run_getObj_map p3,Go.MapKept.run_checkKey u2 hkey,Go.MapKept.run_findKey u2 h1,Nat.zero_add,hj,Option.map_some,Option.getD_some,h3,Go.MapKept.run_keyThatStays hkey,Go.MapKept.run_setObj_map _ p3],by simp,⟨_,_,(Go.MapKept.heap_set p3).1,⟨Go.MapKept.stamped_modify p4.stamped _ _ (fun _ _=>rfl) (fun e' _ he'=>hkey2 e' he'),?_,by rw[hadd]; exact p4.lt⟩⟩,fun r' hne=>(Go.MapKept.heap_set p3).2 r' hne,rfl,rfl⟩
          rw[hadd,← p4.key]
          exact Go.MapKept.modify_keys j _ hkey2
       obtain⟨w2,r1,r2,⟨es',ck',r3,r4⟩,r5,r6⟩:=hrun
       obtain⟨s1,s2⟩:=put_map hs hb hB p3 r2 r3 r4 r5 r6
       refine⟨.skip,w2,F,g,?_,.inr ⟨rfl,rfl⟩,s1,s2⟩
       simp only[execOp,ho,hvm,hvk]
       exact run_u _ _ r1
     · cases he
   · cases he
 · cases he
end
end Go.Proofs.YtemdkfnenjpioaaGreatDoor
namespace Go.Proofs.YtemdkfnenjpioaaGreatDoor
open Go
section
variable {F:Addr→Prop} {g:Gh} {w:World} {P:Program} {H H':List HB} {t:List AV} {a:Act} {o:Oper} {v:AV}
theorem A1i (hs:St F g H w) (ht:Tm F g w t a) {ao:AOp} (hc:I1 P o.op=some ao) (he:Ar ao (aev t) H=some (v,H')):Bq P o a F g H w v H':=by
 cases hop:o.op<;>rw[hop] at hc<;>simp only[I1] at hc<;>try (cases hc;done)
 case move x=>
  simp only[Option.map_eq_some_iff] at hc;obtain⟨y,hy,rfl⟩:=hc
  exact ok_mov hs ht (.inl hop) hy he
 case assign x=>
  simp only[Option.map_eq_some_iff] at hc;obtain⟨y,hy,rfl⟩:=hc
  exact ok_mov hs ht (.inr hop) hy he
 case pick c x x'=>
  split at hc
  · rename_i h1 h2 h3
    simp only[Option.some.injEq] at hc;subst hc
    exact ok_pick hs ht hop h1 h2 h3 he
  · cases hc
 case alloc ty=>
  simp only[Option.map_eq_some_iff] at hc;obtain⟨z,hz,rfl⟩:=hc
  exact ok_alloc hs hop hz he
 case box ty x=>
  split at hc
  · simp only[Option.map_eq_some_iff] at hc;obtain⟨z,hz,rfl⟩:=hc
    exact ok_boxT hs ht hop hz he
  · simp only[Option.map_eq_some_iff] at hc;obtain⟨z,hz,rfl⟩:=hc
    exact ok_box hs ht hop hz he
 case build ty parts=>
  split at hc
  · rename_i h1 h2
    split at hc
    · rename_i h3
      simp only[Option.map_eq_some_iff] at hc;obtain⟨ps,hps,rfl⟩:=hc
      exact ok_build hs ht hop h1 h2 h3 hps he
    · cases hc
  · cases hc
 case buildSlice ty len parts=>
  split at hc
  · rename_i h1
    split at hc
    · rename_i h2 h3 h4
      split at hc
      · rename_i h5
        simp only[Option.some.injEq] at hc;subst hc
        exact Asx hs ht hop h1 h2 h3 h4 h5 he
      · split at hc
        · rename_i h5
          obtain⟨rfl,h6⟩:=h5
          simp only[Option.some.injEq] at hc;subst hc
          exact A0i hs hop h6 h1 h2 he
        · cases hc
    · cases hc
  · cases hc
 case load ty x=>
  split at hc
  · rename_i h1 h2 h3
    split at hc
    · rename_i h4
      simp only[Option.some.injEq] at hc;subst hc
      exact ok_load hs ht hop h1 h2 h3 h4 he
    · cases hc
  · cases hc
 case store ty p x=>
  split at hc
  · rename_i h1 h2 h3
    split at hc
    · simp only[Option.some.injEq] at hc;subst hc
      exact ok_store hs ht hop h1 h2 h3 he
    · cases hc
  · cases hc
 case nilCheck x=>
  simp only[Option.map_eq_some_iff] at hc;obtain⟨z,hz,rfl⟩:=hc
  exact ok_nilck hs ht hop hz he
 case binOp op ty x y yt=>
  split at hc
  · rename_i hq
    split at hc
    · rename_i c h1
      simp only[Option.map_eq_some_iff] at hc;obtain⟨z,hz,rfl⟩:=hc
      exact Au7 hs ht hop hq h1 hz he
    · split at hc
      · rename_i hb
        split at hc
        · rename_i h1 h2
          simp only[Option.some.injEq] at hc;subst hc
          refine ok_binB hs ht hop hq ?_ h1 h2 he
          unfold Ao3 at hb
          split at hb
          · assumption
          · cases hb
        · cases hc
      · split at hc
        · rename_i h1 h2
          simp only[Option.some.injEq] at hc;subst hc
          exact ok_bin hs ht hop h1 h2 he
        · cases hc
  · split at hc
    · rename_i h1 h2
      simp only[Option.some.injEq] at hc;subst hc
      exact ok_bin hs ht hop h1 h2 he
    · cases hc
 case unOp op ty x=>
  simp only[Option.map_eq_some_iff] at hc;obtain⟨z,hz,rfl⟩:=hc
  exact ok_un hs ht hop hz he
 case convert s d x=>
  split at hc
  · rename_i h1 h2 h3
    simp only[Option.some.injEq] at hc;subst hc
    exact Ar2 hs ht hop h1 h2 h3 he
  · rename_i h1 h2 h3
    simp only[Option.some.injEq] at hc;subst hc
    exact ok_convS hs ht hop h1 h2 h3 he
  · rename_i h1 h2 h3
    split at hc
    · rename_i h4
      simp only[Option.some.injEq] at hc;subst hc
      exact Ari hs ht hop h1 h2 h4 h3 he
    · cases hc
  · cases hc
 case makeSlice ty l c=>
  unfold Wg at hc
  split at hc<;>try (cases hc;done)
  split at hc
  · rename_i h1
    split at hc
    · rename_i h2 h3
      split at hc
      · rename_i h4
        simp only[Option.some.injEq] at hc;subst hc
        exact Ax6 hs hop h1 h2 h3 h4 he
      · cases hc
    · cases hc
  · cases hc
 case makeMap ty r=>
  split at hc
  · split at hc
    · simp only[Option.some.injEq] at hc;subst hc
      exact ok_mkmap hs hop he
    · cases hc
  · cases hc
 case mapUpdate ty m k x=>
  split at hc
  · rename_i h0
    split at hc
    · rename_i h1 h2
      simp only[Option.some.injEq] at hc;subst hc
      exact A1n hs ht hop h0 h1 h2 he
    · cases hc
  · cases hc
 case makeInterface ty x=>
  split at hc
  · cases hc
  · cases hc
  · rename_i d hn h1
    simp only[Option.map_eq_some_iff] at hc;obtain⟨z,hz,rfl⟩:=hc
    refine ok_mkif hs ht hop h1 (fun ms e=>?_) hz he
    subst e;exact hn ms rfl
 case makeFunc f first cap=>
  split at hc
  · rename_i h1 h2
    simp only[Option.some.injEq] at hc;subst hc
    exact ok_mkfn hs ht hop h1 h2 he
  · cases hc
 case slice ty x lo hi mx=>
  split at hc
  · rename_i e x' lo' hi' mx' h1 h2 h3 h4 h5
    split at hc
    · rename_i i hi'
      simp only[Option.some.injEq] at hc;subst hc
      exact ok_slice hs ht hop h1 hi' h2 h3 h4 h5 he
    · cases hc
  · rename_i x' lo' hi' h1 h2 h3 h4 h5
    simp only[Option.some.injEq] at hc;subst hc
    cases mx with
    | none=>exact Arz hs ht hop h1 h2 h3 h4 he
    | some m=>simp only[cvO,Option.map_eq_some_iff] at h5;obtain⟨_,_,h⟩:=h5;cases h
  · cases hc
 case fieldAddr s x f=>
  split at hc
  · rename_i h1 h2
    split at hc
    · rename_i h3
      split at hc
      · rename_i h4
        split at hc
        · rename_i h5
          simp only[Option.some.injEq] at hc;subst hc
          exact ok_faddr hs ht hop h1 h3 h4 h5 h2 he
        · cases hc
      · cases hc
    · cases hc
  · cases hc
 case indexAddr ty x ix=>
  split at hc
  · rename_i h1 h2 h3
    split at hc
    · rename_i h4
      split at hc
      · rename_i h5
        simp only[Option.some.injEq] at hc;subst hc
        exact ok_iaddr hs ht hop h1 h4 h5 h2 h3 he
      · cases hc
    · cases hc
  · cases hc
 case index ty x ix=>
  split at hc
  · rename_i h1 h2 h3
    simp only[Option.some.injEq] at hc;subst hc
    exact ok_sidx hs ht hop h1 h2 h3 he
  · cases hc
 case extract x n=>
  simp only[Option.map_eq_some_iff] at hc;obtain⟨z,hz,rfl⟩:=hc
  exact A1f hs ht hop hz he
 case call c=>
  unfold Vc at hc
  split at hc
  · split at hc
    · simp only[Option.some.injEq] at hc;subst hc
      simp[Ar] at he
    · cases hc
  · cases hc
  · rename_i b hb
    split at hc
    · rename_i x ty r ha hty
      split at hc
      · rename_i h1
        simp only[Option.map_eq_some_iff] at hc;obtain⟨z,hz,rfl⟩:=hc
        exact ok_slen hs ht hop hb ha hty h1 hz he
      · rename_i e h1
        simp only[Option.map_eq_some_iff] at hc;obtain⟨z,hz,rfl⟩:=hc
        exact ok_len hs ht hop hb ha hty h1 hz he
      · cases hc
    · simp only[Option.map_eq_some_iff] at hc;obtain⟨z,hz,rfl⟩:=hc
      exact ok_min hs ht hop hb hz he
    · simp only[Option.map_eq_some_iff] at hc;obtain⟨z,hz,rfl⟩:=hc
      exact ok_max hs ht hop hb hz he
    · rename_i x y ty u ha hty
      split at hc
      · rename_i h1 h2 h3 h4
        split at hc
        · rename_i h5 h6
          split at hc
          · rename_i h7
            simp only[Option.some.injEq] at hc;subst hc
            exact Axx hs ht hop hb ha hty h1 rfl h2 h5 h6 h7 h3 h4 he
          · cases hc
        · cases hc
      · rename_i h1 h2 h3 h4
        split at hc
        · rename_i h5 h6
          split at hc
          · rename_i h7
            simp only[Option.some.injEq] at hc;subst hc
            exact Axb hs ht hop hb ha hty h1 h2 h5 h6 h7 h3 h4 he
          · cases hc
        · cases hc
      · cases hc
    · cases hc
end
end Go.Proofs.YtemdkfnenjpioaaGreatDoor
namespace Go.Proofs.YtemdkfnenjpioaaGreatDoor
open Go
def Gu (P:Program) (f:FuncId):Bool:=
 match P.funcs[f]? with
 | some fn=>fn.name != "runtime.NumGoroutine" && fn.body.isSome
 | none=>false
def Uc (c:Nat):Bool:=c == 32 || (9≤c && c≤13)
structure Dr (P:Program) (F:Addr→Prop) (w:World):Prop where
 rng:F ⟨Of,0,none⟩∧∃te pe,w.cell? ⟨Of,0,none⟩=some (.iface te pe)
 asc: ∀c:Nat,c < 256→F ⟨P1,c,none⟩∧w.cell? ⟨P1,c,none⟩=some (.int .u8 (if Uc c then 1 else 0))
 mxl:F ⟨gMxl,0,none⟩∧∃m,w.cell? ⟨gMxl,0,none⟩=some (.int .i64 m)
theorem Dr.mono {P:Program} {F F':Addr→Prop} {g g':Gh} {w w':World} (h:Dr P F w) (K:Cr F g w F' g' w'):Dr P F' w' where
 rng:=by
  obtain⟨h1,te,pe,h2⟩:=h.rng
  exact⟨K.sub _ h1,te,pe,(K.keep _ h1).trans h2⟩
 asc c hc:=by
  obtain⟨h1,h2⟩:=h.asc c hc
  exact⟨K.sub _ h1,(K.keep _ h1).trans h2⟩
 mxl:=by
  obtain⟨h1,m,h2⟩:=h.mxl
  exact⟨K.sub _ h1,m,(K.keep _ h1).trans h2⟩
def Ab (P:Program) (f:FuncId) (args:List AV) (H:List HB) (res:AV) (H':List HB):Prop:=
 Gu P f=true∧∀F g w vs,Dr P F w→St F g H w→RL F g w args vs→
  Calls P f vs.toArray w fun e w'=>∃v F' g',e= .returned v∧R F' g' w' res v∧St F' g' H' w'∧Ext F g H w F' g' H' w'
inductive Out where
 | res (v:AV)
 | pan (v:AV)
def Gk (P:Program) (f:FuncId) (args:List AV) (H:List HB) (Q:Out→List HB→Prop):Prop:=
 Gu P f=true∧∀F g w vs,Dr P F w→St F g H w→RL F g w args vs→
  Calls P f vs.toArray w fun e w'=>∃o H' F' g',Q o H'∧St F' g' H' w'∧Ext F g H w F' g' H' w'∧match o with
   | .res v=>∃u,e= .returned u∧R F' g' w' v u
   | .pan v=>∃u,e= .panicked [{ v:=u,recovered:=false }]∧R F' g' w' v u
theorem Ab.any {P:Program} {f:FuncId} {args:List AV} {H H':List HB} {v:AV} (h:Ab P f args H v H'):Gk P f args H fun o K=>o= .res v∧K=H':=
 ⟨h.1,fun F g w vs hG hs hr=>(h.2 F g w vs hG hs hr).mono fun _ _ ⟨u,F',g',e1,e2,e3,e4⟩=>⟨.res v,H',F',g',⟨rfl,rfl⟩,e3,e4,u,e1,e2⟩⟩
theorem Gk.mono {P:Program} {f:FuncId} {args:List AV} {H:List HB} {Q Q':Out→List HB→Prop} (h:Gk P f args H Q) (hq: ∀o K,Q o K→Q' o K):Gk P f args H Q':=
 ⟨h.1,fun F g w vs hG hs hr=>(h.2 F g w vs hG hs hr).mono fun _ _ ⟨o,H',F',g',e1,e2⟩=>⟨o,H',F',g',hq _ _ e1,e2⟩⟩
class Cc where
 pk:AV→List HB→Prop
instance noPan:Cc:=⟨fun _ _=>False⟩
def K7 [Cc] (P:Program) (f:FuncId) (args:List AV) (H:List HB) (res:AV) (H':List HB):Prop:=
 Gk P f args H fun o K=>(o= .res res∧K=H')∨∃v,o= .pan v∧Cc.pk v K
theorem Ab.res [Cc] {P:Program} {f:FuncId} {args:List AV} {H H':List HB} {v:AV} (h:Ab P f args H v H'):K7 P f args H v H':=h.any.mono fun _ _ h=>.inl h
section
variable [Cc]
def Ck (P:Program) (op:AOp) (ρ :AR→AV) (H:List HB) (v:AV) (H':List HB):Prop:=
 match op with
 | .call f args=>∃n first cap,ρ f= .fn (.func n) first cap∧K7 P n (first++args.map ρ ++cap) H v H'
 | op=>Ar op ρ H=some (v,H')
def D4 (ds:List Deferred) (F:Addr→Prop) (g:Gh) (H:List HB) (w:World) (Q:Exit→Act→World→Prop):Prop:=
 ∀F' g' H' w' a' v u,R F' g' w' v u→St F' g' H' w'→Ext F g H w F' g' H' w'→a'.defers=ds→Cc.pk v H'→Q (.panic [{ v:=u,recovered:=false }]) a' w'
theorem D4.ext {ds:List Deferred} {F:Addr→Prop} {g:Gh} {H:List HB} {w:World} {Q:Exit→Act→World→Prop} (h:D4 ds F g H w Q) {F':Addr→Prop} {g':Gh} {H':List HB} {w':World} (hx:Ext F g H w F' g' H' w'):D4 ds F' g' H' w' Q:=
 fun F2 g2 H2 w2 a2 v u h1 h2 h3 h4 h5=>h F2 g2 H2 w2 a2 v u h1 h2 (hx.trans h3) h4 h5
def Ax (t:List AV) (dst:Option Nat) (v:AV):List AV:=match dst with | some d=>t.set d v | none=>t
section
variable {F:Addr→Prop} {g:Gh} {w:World} {P:Program}
theorem Tm.mono {F':Addr→Prop} {g':Gh} {w':World} (K:Cr F g w F' g' w') {t:List AV} {a:Act} (h:Tm F g w t a):Tm F' g' w' t a:=RL.mono K _ _ h
theorem Tm.put {t:List AV} {a:Act} (h:Tm F g w t a) {v:AV} {u:Value} (hv:R F g w v u) (dst:Option Nat):Tm F g w (Ax t dst v) (a.put dst u):=by
 cases dst with
 | none=>exact h
 | some d=>
   have:=Jn h hv d
   simpa[Tm,Ax,Act.put] using this
theorem W9 {f:FuncId} (h:Gu P f=true) (args:Array Value):(callFunc f args).run P w= .ok (.enter f args) w:=by
 unfold Gu at h
 cases hf:P.funcs[f]? with
 | none=>rw[hf] at h;cases h
 | some fn=>
   rw[hf] at h
   simp only[Bool.and_eq_true,bne_iff_ne,ne_eq] at h
   have h2:fn.body.isNone=false:=by
    cases hb:fn.body with
    | none=>rw[hb] at h;simp at h
    | some _=>rfl
   simp only[callFunc,Sem.run_bind,run_program,Result.andThen_ok,hf]
   have h1:(fn.name == "runtime.NumGoroutine")=false:=by simpa using h.1
   simp only[h1,Bool.false_eq_true,if_false,h2]
   rfl
theorem Ik {H H':List HB} {t:List AV} {a:Act} {o:Oper} {v:AV} (hG:Dr P F w) (hs:St F g H w) (ht:Tm F g w t a) {ao:AOp} (hc:I1 P o.op=some ao) (he:Ck P ao (aev t) H v H')
 {K:Act→World→Prop} {Q:Exit→Act→World→Prop} (hK: ∀w' F' g' u,R F' g' w' v u→St F' g' H' w'→Ext F g H w F' g' H' w'→K (a.put o.dst u) w') {ds:List Deferred} (hdf:a.defers=ds) (hP:D4 ds F g H w Q):o.wp P a w K Q:=by
 by_cases hcall: ∃f args,ao= .call f args
 · obtain⟨f,args,rfl⟩:=hcall
   obtain⟨n,first,cap,hf,hen,hcalls⟩:=he
   have hop: ∃c fo,o.op= .call c∧c.callee= .value fo∧cvX fo=some f∧G9 c.args.toList=some args:=by
    cases hop:o.op<;>rw[hop] at hc<;>simp only[I1] at hc<;>try (first | (cases hc;done) | (simp only[Option.map_eq_some_iff] at hc;obtain⟨_,_,hx⟩:=hc;cases hx;done) | (repeat' (split at hc))<;>first | (cases hc;done) | (simp only[Option.map_eq_some_iff] at hc;obtain⟨_,_,hx⟩:=hc;cases hx;done))
    case makeSlice=>
     unfold Wg at hc
     (repeat' (split at hc))<;>cases hc
    case call c=>
     unfold Vc at hc
     split at hc
     · rename_i fo hfo
       split at hc
       · rename_i h1 h2
         simp only[Option.some.injEq,AOp.call.injEq] at hc
         obtain⟨rfl,rfl⟩:=hc
         exact⟨c,fo,rfl,hfo,h1,h2⟩
       · cases hc
     · cases hc
     · (repeat' (split at hc))<;>first | (cases hc;done) | (simp only[Option.map_eq_some_iff] at hc;obtain⟨_,_,hx⟩:=hc;cases hx;done)
   obtain⟨c,fo,h1,h2,h3,h4⟩:=hop
   have hrf:=Cm ht h3
   rw[hf] at hrf
   obtain⟨a1,a2,e1,e2,e3⟩:=Ou hrf
   have hra:=P0 ht h4
   have hrl:=E0 (E0 e2 hra) e3
   have hcl:=hcalls F g w _ hG hs hrl
   have hrun:(execOp a.eval o).run P w= .ok (.enter n (a1.toList++c.args.toList.map a.eval++a2.toList).toArray) w:=by
    simp only[execOp,h1,resolve,h2,e1,Deferred.ofValue,Sem.run_bind,Sem.run_pure,Result.andThen_ok,invoke,W9 hen]
    congr 2
    apply Array.ext'
    simp
   unfold Oper.wp
   rw[hrun,Oper.upon_enter]
   refine hcl.mono fun e w' ⟨x,H2,F',g',hq,r2,r3,ho⟩=>?_
   rcases hq with⟨rfl,rfl⟩ | ⟨pv,rfl,hq⟩
   · obtain⟨u,rfl,r1⟩:=ho
     exact hK w' F' g' u r1 r2 r3
   · obtain⟨u,rfl,r1⟩:=ho
     exact hP F' g' H2 w' a pv u r1 r2 r3 hdf hq
 · have he':Ar ao (aev t) H=some (v,H'):=by
    cases ao<;>first | exact he | (exact absurd ⟨_,_,rfl⟩ hcall)
   obtain⟨r,w',F',g',h1,h2,h3,h4⟩:=A1i hs ht hc he'
   unfold Oper.wp
   rw[h1]
   rcases h2 with⟨u,rfl,h2⟩ | ⟨rfl,rfl⟩
   · rw[Oper.upon_value]; exact hK w' F' g' u h2 h3 h4
   · rw[Oper.upon_skip]; exact hK w' F' g' undef Dc h3 h4
def AV.no:AV:=.int .u8 300
theorem R_no {u:Value} (h:R F g w .no u):False:=by
 simp only[AV.no,R] at h
 have h2:=h.2
 unfold IntKind.has IntKind.min IntKind.max IntKind.signed IntKind.bits at h2
 simp at h2
def A7 (t:List AV):Option (Nat × Bool)→Bool
 | none=>true
 | some (d,want)=>match t[d]? with
   | some (.bool b)=>b == want
   | _=>false
def Uk (ops:Array Oper):Option (Nat × Bool)→Option (Option (Nat × Bool))
 | none=>some none
 | some (j,want)=>match (ops[j]?).bind (·.dst) with
   | some d=>some (some (d,want))
   | none=>none
theorem Mx {t:List AV} {a:Act} (ht:Tm F g w t a) {ops:Array Oper} {o:Oper} {gd:Option (Nat × Bool)} (h:Uk ops o.guard=some gd):Region.wanted o (yielded ops a.tmps)=A7 t gd:=by
 unfold Region.wanted
 cases hg:o.guard with
 | none=>rw[hg] at h;simp only[Uk,Option.some.injEq] at h;subst h;rfl
 | some p=>
   obtain⟨j,want⟩:=p
   rw[hg] at h
   simp only[Uk] at h
   split at h
   · rename_i d hd
     simp only[Option.some.injEq] at h;subst h
     simp only[yielded,hd,Option.bind_some,A7]
     rcases Nat.lt_or_ge d t.length with hl | hl
     · obtain⟨u,e1,e2⟩:=I7 ht d t[d] (by simp[hl])
       rw[List.getElem?_eq_getElem hl]
       have e1':a.tmps[d]? =some u:=by simpa using e1
       rw[e1']
       cases hx:t[d]<;>rw[hx] at e2
       case bool b=>rw[J2 e2]; cases b<;>cases want<;>rfl
       case val v=>simp only[R] at e2;obtain⟨rfl,hu⟩:=e2;cases u<;>first | rfl | (simp[X9] at hu)
       case vsl b n=>simp only[R] at e2;obtain⟨B,cap,h1,h2,rfl,_⟩:=e2;rfl
       all_goals
        simp only[R] at e2
        first
         | (obtain⟨_,⟨_,rfl,_⟩ | ⟨_,_,_,_,_,rfl,_⟩⟩:=e2<;>rfl)
         | (subst e2;rfl)
         | (obtain⟨rfl,_⟩:=e2;rfl)
         | (obtain⟨_,_,_,rfl⟩:=e2;rfl)
         | (obtain⟨_,_,rfl,_⟩:=e2;rfl)
         | (obtain⟨_,rfl,_⟩:=e2;rfl)
     · have hlen:=Dh ht
       rw[List.getElem?_eq_none hl]
       have:a.tmps[d]? =none:=by rw[Array.getElem?_eq_none]; simp at hlen;omega
       rw[this]; rfl
   · cases h
def Kz (P:Program) (ops:Array Oper) (o:Oper):Option AO:=
 match I1 P o.op,Uk ops o.guard with
 | some op,some gd=>some ⟨o.dst,op,gd⟩
 | _,_=>none
def Dl (P:Program) (ops:Array Oper):List Oper→Option (List AO)
 | []=>some []
 | o :: r=>match Kz P ops o,Dl P ops r with
   | some x,some xs=>some (x :: xs)
   | _,_=>none
def Du (P:Program):List AO→List AV→List HB→(List AV→List HB→Prop)→Prop
 | [],t,H,K=>K t H
 | o :: r,t,H,K=>(A7 t o.guard=true∧∃v H',Ck P o.op (aev t) H v H'∧Du P r (Ax t o.dst v) H' K)∨(A7 t o.guard=false∧Du P r (Ax t o.dst .undef) H K)∨(A7 t o.guard=true∧∃H',Ck P o.op (aev t) H .no H')
def Sim (P:Program) (F:Addr→Prop) (g:Gh) (H:List HB) (w:World) (t:List AV) (a:Act):Prop:=St F g H w∧Tm F g w t a∧a.defers=[]∧Dr P F w
theorem Hi (a:Act) (dst:Option Tmp) (v:Value):(a.put dst v).defers=a.defers:=by cases dst<;>rfl
theorem Abj {ops:Array Oper} {Q:Exit→Act→World→Prop} {K:List AV→List HB→Prop} : ∀(l:List Oper) (aos:List AO) (k:Nat) (F:Addr→Prop) (g:Gh) (H:List HB) (w:World) (t:List AV) (a:Act),(∀ j,l[j]? =ops[k+j]?)→Dl P ops l=some aos→
 Sim P F g H w t a→Du P aos t H K→(∀ F' g' H' w' t' a',Sim P F' g' H' w' t' a'→Ext F g H w F' g' H' w'→K t' H'→Q .normal a' w')→D4 [] F g H w Q→wpOps P ops Q (List.range' k l.length) a w
 | [],aos,k,F,g,H,w,t,a,_,hc,hs,h,hQ,_=>by
   simp only[Dl,Option.some.injEq] at hc;subst hc
   exact hQ F g H w t a hs (Ext.refl _ _ _ _) h
 | o :: l,aos,k,F,g,H,w,t,a,hl,hc,hs,h,hQ,hP=>by
   simp only[Dl] at hc
   split at hc
   · rename_i x xs h1 h2
     simp only[Option.some.injEq] at hc;subst hc
     have ho:ops[k]? =some o:=by simpa using (hl 0).symm
     have hl': ∀j,l[j]? =ops[k+1+j]?:=fun j=>by
      have:=hl (j+1)
      simp only[List.getElem?_cons_succ] at this
      rw[this]; congr 1;omega
     unfold Kz at h1
     split at h1
     · rename_i op gd c1 c2
       simp only[Option.some.injEq] at h1;subst h1
       obtain⟨s1,s2,s3,s4⟩:=hs
       have hg:=Mx s2 c2
       simp only[List.length_cons,List.range'_succ,wpOps,ho,hg]
       simp only[Du] at h
       rcases h with⟨g1,v,H',e1,e2⟩ | ⟨g1,e2⟩ | ⟨g1,H',e1⟩
       · simp only[g1,if_true]
         refine .inl (Ik s4 s1 s2 c1 e1 (fun w' F' g' u r1 r2 r3=>?_) s3 hP)
         exact Abj l xs (k+1) F' g' H' w' _ _ hl' h2 ⟨r2,(s2.mono r3.keeps).put r1 _,by rw[Hi]; exact s3,s4.mono r3.keeps⟩ e2 (fun F2 g2 H2 w2 t2 a2 q1 q2 q3=>hQ F2 g2 H2 w2 t2 a2 q1 (r3.trans q2) q3) (hP.ext r3)
       · simp only[g1,Bool.false_eq_true,if_false]
         exact Abj l xs (k+1) F g H w _ _ hl' h2 ⟨s1,s2.put Dc _,by rw[Hi]; exact s3,s4⟩ e2 hQ hP
       · simp only[g1,if_true]
         exact .inl (Ik s4 s1 s2 c1 e1 (fun w' F' g' u r1 _ _=>(R_no r1).elim) s3 hP)
     · cases h1
   · cases hc
end
end
theorem D4.none {ds:List Deferred} {F:Addr→Prop} {g:Gh} {H:List HB} {w:World} {Q:Exit→Act→World→Prop} :D4 ds F g H w Q:=fun _ _ _ _ _ _ _ _ _ _ _ h=>h.elim
end Go.Proofs.YtemdkfnenjpioaaGreatDoor
