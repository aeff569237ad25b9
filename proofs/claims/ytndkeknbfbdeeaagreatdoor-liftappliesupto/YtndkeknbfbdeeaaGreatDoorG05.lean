/- A part of the proof that LiftApplies answers true. -/
import Derived.Test.YtndkeknbfbdeeaaGreatDoorG04
set_option linter.all false
set_option maxHeartbeats 4000000
set_option maxRecDepth 100000
namespace Go.Proofs.YtndkeknbfbdeeaaGreatDoor
open Go
variable {r:AV}{ops:B8}{tok:Dh}{els:List Ao}{ws:List Ck}{m:Nat}{dst:Option Nat}{α:Type}
section
variable [D6]
abbrev Co:=AX->List AV->List HB->Prop
inductive Fr where
 |code (c:AC)
 |blk (id:Nat)
def kq(P:Program):List Fr->Co->Co
 | [],Q,x,t,H=>Q x t H
 | .code c::k,Q,x,t,H=>match x with | .normal=>Ot P c (kq P k Q) t H | .exit i=>kq P k Q (.exit i) t H | .ret=>kq P k Q .ret t H
 | .blk id::k,Q,x,t,H=>match x with | .normal=>kq P k Q .normal t H | .exit i=>if i=id then kq P k Q .normal t H else kq P k Q (.exit i) t H | .ret=>kq P k Q .ret t H
section
variable (P:Program)
def WP(c:AC)(k:List Fr)(Q:Co)(t:List AV)(H:List HB):Prop:=Ot P c (kq P k Q) t H
def KN(k:List Fr)(Q:Co)(t:List AV)(H:List HB):Prop:=kq P k Q .normal t H
def KE(i:Nat)(k:List Fr)(Q:Co)(t:List AV)(H:List HB):Prop:=kq P k Q (.exit i) t H
def KR(k:List Fr)(Q:Co)(t:List AV)(H:List HB):Prop:=kq P k Q .ret t H
def I1(l:List AO)(k:List Fr)(Q:Co)(t:List AV)(H:List HB):Prop:=Yl P l t H fun t' H'=>KN P k Q t' H'
def ew(x:Option (AV×List HB))(dst:Option Nat)(l:List AO)(k:List Fr)(Q:Co)(t:List AV):Prop:=j9 x fun v H'=>I1 P l k Q (Cd t dst v) H'
def CALL(f:AV)(args:List AV)(dst:Option Nat)(l:List AO)(k:List Fr)(Q:Co)(t:List AV)(H:List HB):Prop:=(Yo P f args H fun v H'=>I1 P l k Q (Cd t dst v) H')\/rx P f args H
def Zv(b:Bool)(o:AO)(l:List AO)(k:List Fr)(Q:Co)(t:List AV)(H:List HB):Prop:=
 Si b (db P o.op t H fun v H'=>I1 P l k Q (Cd t o.dst v) H') (I1 P l k Q (Cd t o.dst .undef) H)
def px(v:AV)(a b:AC)(k:List Fr)(Q:Co)(t:List AV)(H:List HB):Prop:=Ary v (WP P a k Q t H) (WP P b k Q t H)
variable {k:List Fr} {Q:Co} {t:List AV} {H:List HB}
def Baw(c:AC):kq P (.code c::k) Q=Zo (fun t' H'=>Ot P c (kq P k Q) t' H') (kq P k Q):=by
 funext x t H;cases x<;>rfl
def Bav(id:Nat):kq P (.blk id::k) Q=l7 id (kq P k Q):=by
 funext x t H;cases x<;>rfl
@[simp] def Az(a b:AC):WP P (.seq a b) k Q t H=WP P a (.code b::k) Q t H:=by simp only[WP,Ot,Baw]
@[simp] def WP_block(id:Nat)(a:AC):WP P (.block id a) k Q t H=WP P a (.blk id::k) Q t H:=by simp only[WP,Ot,Bav]
@[simp] def WP_skip:WP P .skip k Q t H=KN P k Q t H:=(rfl)
@[simp] def WP_exit(i:Nat):WP P (.exit i) k Q t H=KE P i k Q t H:=(rfl)
@[simp] def WP_ret:WP P .ret k Q t H=KR P k Q t H:=(rfl)
@[simp] def Bs3(l:B8):WP P (.region l) k Q t H=I1 P l k Q t H:=(rfl)
@[simp] def WP_cond(c:AR)(a b:AC):WP P (.cond c a b) k Q t H=px P (Bh t c) a b k Q t H:=(rfl)
@[simp] def Bsw(a b:AC):px P (.bool true) a b k Q t H=WP P a k Q t H:=(rfl)
@[simp] def Bsv(a b:AC):px P (.bool false) a b k Q t H=WP P b k Q t H:=(rfl)
@[simp] def KN_nil:KN P [] Q t H=Q .normal t H:=(rfl)
@[simp] def KN_code(c:AC):KN P (.code c::k) Q t H=WP P c k Q t H:=(rfl)
@[simp] def KN_blk(id:Nat):KN P (.blk id::k) Q t H=KN P k Q t H:=(rfl)
@[simp] def KE_nil(i:Nat):KE P i [] Q t H=Q (.exit i) t H:=(rfl)
@[simp] def KE_code(i:Nat)(c:AC):KE P i (.code c::k) Q t H=KE P i k Q t H:=(rfl)
@[simp] def KE_blk(i id:Nat):KE P i (.blk id::k) Q t H=if i=id then KN P k Q t H else KE P i k Q t H:=(rfl)
@[simp] def KR_nil:KR P [] Q t H=Q .ret t H:=(rfl)
@[simp] def KR_code(c:AC):KR P (.code c::k) Q t H=KR P k Q t H:=(rfl)
@[simp] def KR_blk(id:Nat):KR P (.blk id::k) Q t H=KR P k Q t H:=(rfl)
@[simp] def AR_nil:I1 P [] k Q t H=KN P k Q t H:=(rfl)
@[simp] def AR_cons(o:AO)(l:B8):I1 P (o::l) k Q t H=Zv P (It t o.guard) o l k Q t H:=(rfl)
@[simp] def Bs2(o:AO)(l:B8):Zv P false o l k Q t H=I1 P l k Q (Cd t o.dst .undef) H:=(rfl)
@[simp] def GRD_call(dst:Option Nat)(f:AR)(args:List AR)(g:Option (Nat×Bool))(l:B8):Zv P true ⟨dst,.call f args,g⟩ l k Q t H=CALL P (Bh t f) (args.map (Bh t)) dst l k Q t H:=(rfl)
@[reducible] def Ek.nc:Ek->Bool | .call _ _=>false|_=>true
@[reducible] def Ek.ncl:Ek->Bool | .call _ _=>false | .load _ _ _=>false|_=>true
attribute [simp] Ek.nc Ek.ncl
@[simp] def g_op(d:Option Nat)(op:Ek)(g:Option (Nat×Bool))(l:B8)(h:op.nc=true):Zv P true ⟨d,op,g⟩ l k Q t H=ew P (B4 op (Bh t) H) d l k Q t:=by
 cases op<;>first |rfl|cases h
@[simp] def OPT_some(v:AV)(H':Ai)(dst:Option Nat)(l:B8):ew P (some (v,H')) dst l k Q t=I1 P l k Q (Cd t dst v) H':=(rfl)
def C1{P:Program}{n:FuncId}{args:Ao}{H':Ai}{l:B8}(h:C7 P n args H r H')(hn:I1 P l k Q (Cd t dst r) H'):CALL P (.fn (.func n) [] []) args dst l k Q t H:=
 .inl ⟨r,H',by simpa using h.res,hn⟩
def N5{P:Program}{n:FuncId}{args first cap:Ao}{H':Ai}{l:B8}(h:C7 P n (first ++args++cap) H r H')(hn:I1 P l k Q (Cd t dst r) H'):CALL P (.fn (.func n) first cap) args dst l k Q t H:=
 .inl ⟨r,H',h.res,hn⟩
def A29{P:Program}{n:FuncId}{args first cap:Ao}{H':Ai}{l:B8}(h:Yc P n (first ++args++cap) H .no H'):CALL P (.fn (.func n) first cap) args dst l k Q t H:=
 .inr ⟨H',h⟩
def A9.run{P:Program}(hm:P.follows .mixedOrders=true){c:AC}{Q:Co}{t:Ao}{H:Ai}(h:∀Q':Co,(∀ x t H,Q x t H->Q' x t H)->WP P c [] Q' t H):A9 P c t H Q:=by
 have h1:=h Q (fun _ _ _ h=>h);have h2:kq P [] Q=Q:=by funext x t H;rfl
 unfold WP at h1;rw[h2]at h1;exact A9.of hm h1
def Ip{P:Program}{a:AC}(h:A9 P (.loop a) t H (kq P k Q)):WP P (.loop a) k Q t H:=h
end
def C3{P:Program}{b:Bool}{x y:AC}{k:List Fr}{Q:Co}{t:Ao}{H:Ai}(h1:b=true->WP P x k Q t H)(h2:b=false->WP P y k Q t H):px P (.bool b) x y k Q t H:=by
 cases b
 . exact h2 rfl
 exact h1 rfl
def Em{P:Program}{b:Bool}{o:AO}{l:B8}{k:List Fr}{Q:Co}{t:Ao}{H:Ai}(h1:b=true->Zv P true o l k Q t H)(h2:b=false->Zv P false o l k Q t H):Zv P b o l k Q t H:=by
 cases b
 . exact h2 rfl
 exact h1 rfl
section
variable (P:Program) (V:Nat->Bool) (nq:List Nat) (H0:List HB)
def DR(n:Nat)(l:List AO)(k:List Fr)(Q:Co)(t:List AV)(H:List HB):Prop:=Jv P V nq H0 n l t H fun t' H'=>KN P k Q t' H'
def Zu(n:Nat)(x:Option (AV×List HB))(dst:Option Nat)(l:List AO)(k:List Fr)(Q:Co)(t:List AV):Prop:=j9 x fun v H'=>DR P V nq H0 (n+1) l k Q (Cd t dst v) H'
def yb(n:Nat)(x:Option AV)(dst:Option Nat)(l:List AO)(k:List Fr)(Q:Co)(t:List AV)(H:List HB):Prop:=optV x fun v=>DR P V nq H0 (n+1) l k Q (Cd t dst v) H
def Wk(n:Nat)(f:AV)(args:List AV)(dst:Option Nat)(l:List AO)(k:List Fr)(Q:Co)(t:List AV)(H:List HB):Prop:=ka P V H0 f args fun v=>DR P V nq H0 (n+1) l k Q (Cd t dst v) H
def x9(n:Nat)(f:AV)(args:List AV)(dst:Option Nat)(l:List AO)(k:List Fr)(Q:Co)(t:List AV)(H:List HB):Prop:=Yo P f args H fun v H'=>Ev V H0 H'/\DR P V nq H0 (n+1) l k Q (Cd t dst v) H'
def DLD(c:Bool)(n:Nat)(ag:Bool)(m:Nat)(x:AR)(dst:Option Nat)(l:List AO)(k:List Fr)(Q:Co)(t:List AV)(H:List HB):Prop:=
 Si c (Zu P V nq H0 n (B4 (.load ag m x) (Bh t) H) dst l k Q t) (yb P V nq H0 n (V2 V H0 ag m (Bh t x)) dst l k Q t H)
def DCL(c:Bool)(n:Nat)(f:AV)(args:List AV)(dst:Option Nat)(l:List AO)(k:List Fr)(Q:Co)(t:List AV)(H:List HB):Prop:=
 Si c (x9 P V nq H0 n f args dst l k Q t H) (Wk P V nq H0 n f args dst l k Q t H)
def ll(n:Nat)(b:Bool)(o:AO)(l:List AO)(k:List Fr)(Q:Co)(t:List AV)(H:List HB):Prop:=
 Si b (Mb P V (nq.contains n) H0 o.op t H fun v H'=>DR P V nq H0 (n+1) l k Q (Cd t o.dst v) H') (DR P V nq H0 (n+1) l k Q (Cd t o.dst .undef) H)
variable {n:Nat} {k:List Fr} {Q:Co} {t:List AV} {H:List HB}
@[simp] def DR_nil:DR P V nq H0 n [] k Q t H=KN P k Q t H:=(rfl)
@[simp] def DR_cons(o:AO)(l:B8):DR P V nq H0 n (o::l) k Q t H=ll P V nq H0 n (It t o.guard) o l k Q t H:=(rfl)
@[simp] def Bsy(o:AO)(l:B8):ll P V nq H0 n false o l k Q t H=DR P V nq H0 (n+1) l k Q (Cd t o.dst .undef) H:=(rfl)
@[simp] def Bs1(v:AV)(H':Ai)(dst:Option Nat)(l:B8):Zu P V nq H0 n (some (v,H')) dst l k Q t=DR P V nq H0 (n+1) l k Q (Cd t dst v) H':=(rfl)
@[simp] def Bs0(v:AV)(dst:Option Nat)(l:B8):yb P V nq H0 n (some v) dst l k Q t H=DR P V nq H0 (n+1) l k Q (Cd t dst v) H:=(rfl)
@[simp] def DLD_true(ag:Bool)(m:Nat)(x:AR)(dst:Option Nat)(l:B8):DLD P V nq H0 true n ag m x dst l k Q t H=Zu P V nq H0 n (B4 (.load ag m x) (Bh t) H) dst l k Q t:=(rfl)
@[simp] def Bsz(ag:Bool)(m:Nat)(x:AR)(dst:Option Nat)(l:B8):DLD P V nq H0 false n ag m x dst l k Q t H=yb P V nq H0 n (V2 V H0 ag m (Bh t x)) dst l k Q t H:=(rfl)
@[simp] def DCL_true(f:AV)(args:Ao)(dst:Option Nat)(l:B8):DCL P V nq H0 true n f args dst l k Q t H=x9 P V nq H0 n f args dst l k Q t H:=(rfl)
@[simp] def Bsx(f:AV)(args:Ao)(dst:Option Nat)(l:B8):DCL P V nq H0 false n f args dst l k Q t H=Wk P V nq H0 n f args dst l k Q t H:=(rfl)
@[simp] def d_op(d:Option Nat)(op:Ek)(g:Option (Nat×Bool))(l:B8)(h:op.ncl=true):ll P V nq H0 n true ⟨d,op,g⟩ l k Q t H=Zu P V nq H0 n (B4 op (Bh t) H) d l k Q t:=by
 cases op<;>first |rfl|cases h
@[simp] def d_load(d:Option Nat)(b:Bool)(m:Nat)(x:AR)(g:Option (Nat×Bool))(l:B8):ll P V nq H0 n true ⟨d,.load b m x,g⟩ l k Q t H=DLD P V nq H0 (nq.contains n) n b m x d l k Q t H:=(rfl)
@[simp] def d_call(d:Option Nat)(f:AR)(args:List AR)(g:Option (Nat×Bool))(l:B8):ll P V nq H0 n true ⟨d,.call f args,g⟩ l k Q t H=DCL P V nq H0 (nq.contains n) n (Bh t f) (args.map (Bh t)) d l k Q t H:=(rfl)
end
def A33{P:Program}{k:List Fr}{Q:Co}{t:Ao}{H:Ai}(hok:K4 ops ws (H6 ops []) (Mj ops)=true)(h:DR P (fun _=>true) [] H 0 ops k Q t H):WP P (.draw ops ws) k Q t H:=by
 exact .inl ⟨_,_,hok,h⟩
def Ty{P:Program}(V:Nat->Bool)(nq:Ck){k:List Fr}{Q:Co}{t:Ao}{H:Ai}(hok:K4 ops ws (H6 ops nq) (Mj ops)=true)(h:DR P V nq H 0 ops k Q t H):WP P (.draw ops ws) k Q t H:=
 .inl ⟨_,_,hok,h⟩
def Gr{P:Program}(V:Nat->Bool)(nq:Ck){k:List Fr}{Q:Co}{t:Ao}{H:Ai}(hok:K4 ops ws (H6 ops nq) ops.length=true)(ht:d6 ops nq=true)
 (h:DR P V nq H 0 ops [] (fun _ t' H'=>Ev V H H'/\KN P k Q t' H') t H):WP P (.draw ops ws) k Q t H:=
 .inr (.inl ⟨_,_,hok,ht,h⟩)
def Su(V:Nat->Bool)(nq:Ck)(d:Nat){P:Program}(hm:P.follows .mixedOrders=true){k:List Fr}{Q:Co}{t:Ao}{H:Ai}(hok:K4 ops ws (H6 ops nq) (Mj ops)=true)
 (h:DR P V nq H 0 ops [] (fun _ t' _=>Ua (t'.getD d .undef)=true) t H):WP P (.draw ops ws) k Q t H:=
 .inr (.inr (A9.dead d (A9.drawC hm V nq hok h)))
def A35(V:Nat->Bool)(nq ds:Ck){P:Program}(hm:P.follows .mixedOrders=true){k:List Fr}{Q:Co}{t:Ao}{H:Ai}(hok:K4 ops ws (H6 ops nq) ops.length=true)(ht:xk ops nq ds=true)
 (h:DR P V nq H 0 ops [] (fun _ t' H'=>Ev V H H'/\(∀ d∈ds,Xg V (t'.getD d .undef)=true)/\KN P k Q t' H') t H):WP P (.draw ops ws) k Q t H:=
 .inr (.inr (A9.drawG hm V nq ds hok ht h))
def J5{P:Program}{V:Nat->Bool}{nq:Ck}{H0:Ai}{n:FuncId}{args:Ao}{l:B8}{k:List Fr}{Q:Co}{t:Ao}{H:Ai}(h:∀H,C7 P n args H r H)(hn:DR P V nq H0 (m+1) l k Q (Cd t dst r) H):Wk P V nq H0 m (.fn (.func n) [] []) args dst l k Q t H:=
 ⟨r,fun H _=>by simpa using(h H).res,hn⟩
def py{P:Program}{V:Nat->Bool}{nq:Ck}{H0:Ai}{n:FuncId}{args first cap:Ao}{l:B8}{k:List Fr}{Q:Co}{t:Ao}{H:Ai}(h:∀H,Ev V H0 H->C7 P n (first ++args++cap) H r H)(hn:DR P V nq H0 (m+1) l k Q (Cd t dst r) H):Wk P V nq H0 m (.fn (.func n) first cap) args dst l k Q t H:=
 ⟨r,fun H hk=>(h H hk).res,hn⟩
def A3g{P:Program}{V:Nat->Bool}{nq:Ck}{H0:Ai}{n:FuncId}{args first cap:Ao}{l:B8}{k:List Fr}{Q:Co}{t:Ao}{H:Ai}(h:∀H,Ev V H0 H->Yc P n (first ++args++cap) H r H)(hn:DR P V nq H0 (m+1) l k Q (Cd t dst r) H):Wk P V nq H0 m (.fn (.func n) first cap) args dst l k Q t H:=
 ⟨r,h,hn⟩
def Ql{P:Program}{V:Nat->Bool}{nq:Ck}{H0:Ai}{n:FuncId}{args first cap:Ao}{l:B8}{k:List Fr}{Q:Co}{t:Ao}{H H':Ai}(h:C7 P n (first ++args++cap) H r H')(hk:Ev V H0 H')(hn:DR P V nq H0 (m+1) l k Q (Cd t dst r) H'):x9 P V nq H0 m (.fn (.func n) first cap) args dst l k Q t H:=
 ⟨r,H',h.res,hk,hn⟩
def Fh{P:Program}{n:FuncId}{args args0:Ao}{l:B8}{k:List Fr}{Q:Co}{t:Ao}{H:Ai}(h:C7 P n args0 [] r [])(ha:A0 0 args0=true)(hr:r.inScope 0=true)(he:Ce args=args0)(hn:I1 P l k Q (Cd t dst r) H):CALL P (.fn (.func n) [] []) args dst l k Q t H:=
 C1 ((h.lift ha hr H).args he) hn
def A3f{P:Program}{V:Nat->Bool}{nq:Ck}{H0:Ai}{n:FuncId}{args args0:Ao}{l:B8}{k:List Fr}{Q:Co}{t:Ao}{H:Ai}(h:C7 P n args0 [] r [])(ha:A0 0 args0=true)(hr:r.inScope 0=true)(he:Ce args=args0)(hn:DR P V nq H0 (m+1) l k Q (Cd t dst r) H):Wk P V nq H0 m (.fn (.func n) [] []) args dst l k Q t H:=
 J5 (fun H=>(h.lift ha hr H).args he) hn
abbrev I7:=List Fr
end
section
variable [D6]
def ra:List AO->List Nat
 | []=>[]
 |o::r=>(match o.dst with |some d=>[d]|none=>[])++ra r
def AC.dsts:AC->List Nat
 | .skip=>[]
 | .region ops=>ra ops
 | .draw ops _=>ra ops
 | .seq a b=>a.dsts++b.dsts
 | .cond _ a b=>a.dsts++b.dsts
 | .block _ a=>a.dsts
 | .loop a=>a.dsts
 | .exit _=>[]
 | .ret=>[]
 | .bad=>[]
def Jp:List AV->List Nat->(Nat->AV)->List AV
 |t,[],_=>t
 |t,i::r,f=>Jp (t.set i (f i)) r f
def Ti:List HB->List Nat->(Nat->List AV)->List HB
 |H,[],_=>H
 |H,b::r,h=>Ti (H.set b (.var (h b))) r h
def Gv(t:List AV)(i:Nat):AV:=t.getD i .undef
def Fs(H:List HB)(b:Nat):List AV:=match H[b]? with |some (.var cs)=>cs|_=>[]
def xp:∀(ws:List Nat) (t:List AV),Jp t ws (Gv t)=t
 | [],_=>rfl
 |i::r,t=>by
  have:t.set i (Gv t i)=t:=by
   unfold Gv;rcases E8 i t.length with h|h
   . rw[Jb,Il h]; simp
   exact List.set_eq_of_length_le h
  rw[Jp,this]; exact xp r t
def Agg:∀(bs:List Nat) (H:List HB),(∀ b∈bs,∃cs,H[b]? =some (.var cs))->Ti H bs (Fs H)=H
 | [],_,_=>rfl
 |b::r,H,h=>by
  obtain⟨cs,B7⟩:=h b Ab
  have:H.set b (.var (Fs H b))=H:=by
   have hl:=(List.getElem?_eq_some_iff.1 B7).1;have he:=(List.getElem?_eq_some_iff.1 B7).2;have hv:Fs H b=cs:=by simp[Fs,B7]
   rw[hv,<-he];simp
  rw[Ti,this]; exact Agg r H fun x hx=>h x (by simp[hx])
def Yh(t0:List AV)(ds:List Nat)(H0:List HB)(bs:List Nat)(I:Nat->(Nat->AV)->(Nat->List AV)->List HB->Prop)(n:Nat)(Q:AX->List AV->List HB->Prop):AX->List AV->List HB->Prop:=
 Zo (fun t' H'=>Jp t0 ds (Gv t')=t'/\∃m h' G',m<n/\H'=Ti H0 bs h'++G'/\I m (Gv t') h' G') Q
def A9.loopI{P:Program}{x:AC}{t0:Ao}{H0:Ai}{Q:AX->Ao->Ai->Prop}(bs:Ck)(I:Nat->(Nat->AV)->(Nat->Ao)->Ai->Prop)(n0:Nat)
 (hb:∀b∈bs,∃cs,H0[b]? =some (.var cs)) (h0:I n0 (Gv t0) (Fs H0) [])
 (hr:∀n f h G,I n f h G->A9 P x (Jp t0 x.dsts f) (Ti H0 bs h++G) (Yh t0 x.dsts H0 bs I n Q)):A9 P (.loop x) t0 H0 Q:=by
 refine A9.loop (fun n t H=>∃f h G,t=Jp t0 x.dsts f/\H=Ti H0 bs h++G/\I n f h G) n0 ⟨Gv t0,Fs H0,[],(xp _ _).symm,by rw[Agg bs H0 hb]; simp,h0⟩ ?_;rintro n t H ⟨f,h,G,rfl,rfl,hI⟩;refine A9.mono (hr n f h G hI) ?_;intro e t' H' hq
 cases e with
 |normal=>
  obtain⟨e1,m,h',G',hm,e2,ap⟩:=hq
  exact⟨m,hm,Gv t',h',G',e1.symm,e2,ap⟩
 |exit _=>exact hq
 |ret=>exact hq
def Fo{ds bs:Ck}{t0 t':Ao}{H0 H':Ai}{Q:AX->Ao->Ai->Prop}{I:Nat->(Nat->AV)->(Nat->Ao)->Ai->Prop}{n:Nat}(m:Nat)(h':Nat->Ao){G':Ai}
 (hH:H'=Ti H0 bs h'++G') (hm:m<n) (ht:Jp t0 ds (Gv t')=t') (hI:I m (Gv t') h' G'):
 Yh t0 ds H0 bs I n Q .normal t' H':=
 ⟨ht,m,h',G',hm,hH,hI⟩
def Bb0{ds bs:Ck}{t0 t':Ao}{H0 H':Ai}{Q:AX->Ao->Ai->Prop}{I:Nat->(Nat->AV)->(Nat->Ao)->Ai->Prop}{n:Nat}(h:Q .ret t' H'):Yh t0 ds H0 bs I n Q .ret t' H':=h
def owns(base:Nat)(G:List HB)(tok:Dh)(els:List (List AV))(k:Nat):Prop:=
 (tok= .nilT/\els=[])\/∃j e,tok= .own (base+j)/\G[j]? =some (.tok els.length k e)
def Fp(base:Nat)(G:Ai)(k:Nat):owns base G .nilT [] k:=.inl ⟨rfl,rfl⟩
def Lv{base:Nat}{G L:Ai}{k:Nat}(h:owns base G tok els k):owns base (G++L) tok els k:=by
 rcases h with h|⟨j,e,h1,h2⟩
 . exact .inl h
 exact .inr ⟨j,e,h1,by rw[D5 (List.getElem?_eq_some_iff.1 h2).1]; exact h2⟩
def Aic{e:TypeId}{A G:Ai}{k:Nat}{row:Ao}(h:owns A.length G tok els k)(hl:els.length+1<=A1)(hk:D3 k els=true)(hr:row.length=k):
 ∃tok' G',Ey k e tok els [row] (A++G)=some (.sl tok' (els++[row]),A++G')/\owns A.length G' tok' (els++[row]) k/\G.length<=G'.length:=by
 have hk2:D3 k [row]=true:=by simp[D3,hr]
 rcases h with⟨rfl,rfl⟩|⟨j,e',rfl,hj⟩
 . refine⟨.own (A++G).length,G++[.tok 1 k e],?_,?_,Ab⟩
   . simp[Ey,hk,hk2,Id,A1]
   exact .inr ⟨G.length,e,Ab,Ab⟩
 have Ge:=(List.getElem?_eq_some_iff.1 hj).1;refine⟨.own (A.length+j),G.set j (.tok (els.length+1) k (if e'=e then e else 0)),?_,.inr ⟨j,(if e'=e then e else 0),rfl,?_⟩,Ab⟩
 . have hg:(A++G)[A.length+j]? =some (.tok els.length k e'):=by
    rw[Hj Aa]; simpa using hj
   have Vw:(A++G).set (A.length+j) (.tok (els.length+1) k (if e'=e then e else 0))=A++G.set j (.tok (els.length+1) k (if e'=e then e else 0)):=by
    rw[qg _ _ Aa]; simp
   simp only[Ey,qe,hl,hk,hk2,Mq,Bp,hg,Vw]
 simp[Ks Ge]
def Ss{e:TypeId}{P:Program}{A G:Ai}{k:Nat}{row:Ao}{l:B8}{kf:I7}{Q:Co}{t:Ao}(h:owns A.length G tok els k)(hl:els.length+1<=A1)(hk:D3 k els=true)(hr:row.length=k)
 (hn:∀tok' G',owns A.length G' tok' (els++[row]) k->G.length<=G'.length->I1 P l kf Q (Cd t dst (.sl tok' (els++[row]))) (A++G')):ew P (Ey k e tok els [row] (A++G)) dst l kf Q t:=by
 obtain⟨tok',G',e1,e2,e3⟩:=Aic (e:=e) h hl hk hr;rw[e1];exact hn tok' G' e2 e3
def Yb{e:TypeId}{P:Program}{V:Nat->Bool}{nq:Ck}{H0:Ai}{n:Nat}{A G:Ai}{k:Nat}{row:Ao}{l:B8}{kf:I7}{Q:Co}{t:Ao}(h:owns A.length G tok els k)(hl:els.length+1<=A1)(hk:D3 k els=true)(hr:row.length=k)
 (hn:∀tok' G',owns A.length G' tok' (els++[row]) k->G.length<=G'.length->DR P V nq H0 (n+1) l kf Q (Cd t dst (.sl tok' (els++[row]))) (A++G')):Zu P V nq H0 n (Ey k e tok els [row] (A++G)) dst l kf Q t:=by
 obtain⟨tok',G',e1,e2,e3⟩:=Aic (e:=e) h hl hk hr;rw[e1];exact hn tok' G' e2 e3
def Ea{k:Nat}(f:α->Ao)(l:List α)(h:∀x,(f x).length=k):D3 k (l.map f)=true:=by
 cases l<;>simp[D3,h]
def P7{k n:Nat}{l:List Ao}(h:D3 k l=true):D3 k (l.take n)=true:=by
 cases l<;>cases n<;>simp_all[D3]
end
section
mutual
def AV.fits:AV->Prop
 | .int k n=>k.has n
 | .str s=>s.length<=A1
 | .sl _ els=>els.length<=A1/\mu els
 | .eptr cs=>Bl cs
 | .agg cs=>Bl cs
 | .tup cs=>Bl cs
 | .fn _ a b=>Bl a/\Bl b
 | .iface _ v=>v.fits
 | .bool _=>True
 | .nilp=>True
 | .nilm=>True
 | .ptr _ _=>True
 | .mapv _=>True
 | .val _=>True
 | .vsl _ _=>True
 | .nilf=>True
 | .nili=>True
def Bl:List AV->Prop
 | []=>True
 |x::xs=>x.fits/\Bl xs
def mu:List (List AV)->Prop
 | []=>True
 |x::xs=>Bl x/\mu xs
end
section
variable {F:Addr->Prop} {g:Gh} {w:World}
mutual
def Aal:∀(x:AV) (v:Value),R F g w x v->x.fits
 | .bool _,_,_=>trivial
 | .int _ _,_,h=>(L6 h).2
 | .str _,_,h=>(Wv h).2
 | .nilp,_,_=>trivial
 | .nilm,_,_=>trivial
 | .ptr _ _,_,_=>trivial
 | .mapv _,_,_=>trivial
 | .val _,_,_=>trivial
 | .vsl _ _,_,_=>trivial
 | .nilf,_,_=>trivial
 | .nili,_,_=>trivial
 | .eptr cs,v,h=>by
   simp only[R]at h;obtain⟨B,off,h1,h2⟩:=h
   exact Aag _ _ cs h2
 | .sl tok els,v,h=>by
   simp only[R]at h;obtain⟨h0,h⟩:=h;refine⟨h0,?_⟩;rcases h with⟨h1,_⟩|⟨B,off,sp,cap,k,h1,h2,hk,h3,h4⟩
   . rw[h1]; trivial
   exact Ahr _ _ _ els h3
 | .fn f first cap,v,h=>by
   simp only[R]at h;obtain⟨a1,a2,h1,h2,h3⟩:=h
   exact⟨Z1 first _ h2,Z1 cap _ h3⟩
 | .iface t x,v,h=>by
   simp only[R]at h;obtain⟨u,h1,h2⟩:=h
   exact Aal x u h2
 | .agg cs,v,h=>by
   simp only[R]at h;obtain⟨a,h1,h2⟩:=h
   exact Z1 cs _ h2
 | .tup cs,v,h=>by
   simp only[R]at h;obtain⟨a,h1,h2⟩:=h;exact Z1 cs _ h2
def Z1:∀(x:List AV) (v:List Value),RL F g w x v->Bl x
 | [],_,_=>trivial
 |x::xs,v,h=>by
  simp only[RL]at h;obtain⟨u,r,h1,h2,h3⟩:=h;exact⟨Aal x u h2,Z1 xs r h3⟩
def Aag:∀(B off:Nat) (x:List AV),RM F g w B off x->Bl x
 |_,_,[],_=>trivial
 |B,off,x::xs,h=>by
  simp only[RM]at h;obtain⟨⟨h0,v,h1,h2,h3⟩,h4⟩:=h;exact⟨Aal x v h3,Aag _ _ xs h4⟩
def Ahr:∀(B off k:Nat) (x:List (List AV)),RE F g w B off k x->mu x
 |_,_,_,[],_=>trivial
 |B,off,k,x::xs,h=>by
  simp only[RE]at h;obtain⟨h1,h2,h3⟩:=h;exact⟨Aag _ _ x h2,Ahr _ _ _ xs h3⟩
end
end
def C7.fits{P:Program}{f:FuncId}{args:Ao}{H H':Ai}{res:AV}(he:Qw P f=true)(h:Bl args->C7 P f args H res H'):C7 P f args H res H':=
 ⟨he,fun F g w vs hG hs hr=>(h (Z1 _ _ hr)).2 F g w vs hG hs hr⟩
def C7.go{P:Program}(hm:P.follows .mixedOrders=true){f:FuncId}{ac:AC}{n:Nat}{rs:List Gp}(hf:Nk P f ac n rs){args:Ao}{H H':Ai}{res:AV}(hl:H.length<=H'.length)
 (h:Bl args->∀Q:Co,(∀ x t H,Gl rs res H' x t H->Q x t H)->WP P ac [] Q (start args n) H):C7 P f args H res H':=
 C7.fits hf.en fun Am=>C7.of hf hl (A9.run hm (h Am))
def ab{f:α->Ao}{l:List α}(h:mu (l.map f)):∀x∈l,Bl (f x):=by
 induction l with
 |nil=>simp
 |cons y l ih=>
  simp only[F8,mu]at h;intro x hx;rcases List.mem_cons.1 hx with rfl|hx
  . exact h.1
  exact ih h.2 x hx
attribute [simp] B4 Bh Cd It start AV.cells AV.undef Ni Wb ut xf Aas AV.isCell V2 Dx aa Gl I2 Ic Js AV.strip Ce Gn AV.inScope A0 D9 Be AC.dsts ra Jp Ti Gv
end
inductive Kd where
 |mk (l:List Kd)
inductive Cn where
 |mk (op n:Int) (s:List UInt8) (k:Kd) (names:List (List UInt8)) (l:List Cn)
inductive Sm where
 |mk (op n:Int) (s:List UInt8) (con:Cn) (k:Kd) (ks more:List Kd) (names:List (List UInt8)) (l:List Sm)
def Kd.l:Kd->List Kd | .mk l=>l
def Cn.op:Cn->Int | .mk op _ _ _ _ _=>op
def Cn.n:Cn->Int | .mk _ n _ _ _ _=>n
def Cn.s:Cn->List UInt8 | .mk _ _ s _ _ _=>s
def Cn.k:Cn->Kd | .mk _ _ _ k _ _=>k
def Cn.names:Cn->List (List UInt8) | .mk _ _ _ _ names _=>names
def Cn.l:Cn->List Cn | .mk _ _ _ _ _ l=>l
def At(l:List (List UInt8)):List (List AV):=l.map fun s=>[.str s]
mutual
def Ak:Kd->List AV
 | .mk l=>[.sl .none (Uv l)]
def Uv:List Kd->List (List AV)
 | []=>[]
 |k::ks=>Ak k::Uv ks
end
mutual
def Ag:Cn->List AV
 | .mk op n s k names l=>.int .i64 op :: .int .i64 n :: .str s::Ak k++[.sl .none (At names),.sl .none (W7 l)]
def W7:List Cn->List (List AV)
 | []=>[]
 |c::cs=>Ag c::W7 cs
end
def vd(l:List Kd):Uv l=l.map Ak:=by
 induction l with
 |nil=>rfl
 |cons k l ih=>simp[Uv,ih]
def Abl(l:List Cn):W7 l=l.map Ag:=by
 induction l with
 |nil=>rfl
 |cons k l ih=>simp[W7,ih]
def Df(k:Kd):Ak k=[.sl .none (k.l.map Ak)]:=by cases k;simp[Ak,vd,Kd.l]
def Ap(c:Cn):Ag c=[.int .i64 c.op,.int .i64 c.n,.str c.s,.sl .none (c.k.l.map Ak),.sl .none (At c.names),.sl .none (c.l.map Ag)]:=by
 cases c;simp[Ag,Abl,Df,Cn.op,Cn.n,Cn.s,Cn.k,Cn.names,Cn.l]
def vc(l:List Kd):Ak (.mk l)=[.sl .none (l.map Ak)]:=Df _
@[simp] def Ac8(k:Kd):(Ak k).length=1:=by simp[Df]
@[simp] def Bti(k:Kd):(Ak k).take 1=Ak k:=by simp[Df]
@[simp] def Bth(k:Kd):(Ak k).all AV.isCell=true:=by simp[Df,AV.isCell]
@[simp] def Iq(c:Cn):(Ag c).length=6:=by simp[Ap]
@[simp] def Bs7(c:Cn):(Ag c).take 6=Ag c:=by simp[Ap]
@[simp] def Abj(c:Cn):(Ag c).all AV.isCell=true:=by simp[Ap,AV.isCell]
@[simp] def Bs6(c:Cn):(Ag c).drop 6=[]:=by simp[Ap]
def Bqf(f:α->Ao)(l:List α)(h:∀x∈l,Ce (f x)=f x):Gn (l.map f)=l.map f:=by
 induction l with
 |nil=>rfl
 |cons x l ih=>simp[Gn,h x Ab,ih fun y hy=>h y (by simp[hy])]
def Bop{n:Nat}(f:α->Ao)(l:List α)(h:∀x∈l,A0 n (f x)=true):D9 n (l.map f)=true:=by
 induction l with
 |nil=>rfl
 |cons x l ih=>simp[D9,h x Ab,ih fun y hy=>h y (by simp[hy])]
@[simp] def Bp9(l:List Bu):Gn (At l)=At l:=Bqf _ _ fun _ _=>rfl
@[simp] def Bp8(n:Nat)(l:List Bu):D9 n (At l)=true:=Bop _ _ fun _ _=>rfl
@[simp] def Bts(l:List Bu):Gn (l.map fun s=>[AV.str s])=l.map fun s=>[AV.str s]:=Bp9 l
@[simp] def Btr(n:Nat)(l:List Bu):D9 n (l.map fun s=>[AV.str s])=true:=Bp8 n l
mutual
@[simp] def Bam:∀k:Kd,Ce (Ak k)=Ak k
 | .mk l=>by simp[Ak,Ce,AV.strip,Ux l]
def Ux:∀l:List Kd,Gn (Uv l)=Uv l
 | []=>rfl
 |k::ks=>by simp[Uv,Gn,Bam k,Ux ks]
end
mutual
@[simp] def Bal(n:Nat):∀k:Kd,A0 n (Ak k)=true
 | .mk l=>by simp[Ak,A0,AV.inScope,Uw n l]
def Uw(n:Nat):∀l:List Kd,D9 n (Uv l)=true
 | []=>rfl
 |k::ks=>by simp[Uv,D9,Bal n k,Uw n ks]
end
@[simp] def Bao(l:List Kd):Gn (l.map Ak)=l.map Ak:=by rw[<- vd]; exact Ux l
@[simp] def Ban(n:Nat)(l:List Kd):D9 n (l.map Ak)=true:=by rw[<- vd]; exact Uw n l
mutual
@[simp] def A7e:∀c:Cn,Ce (Ag c)=Ag c
 | .mk op n s (.mk kl) names l=>by simp[Ag,Ak,Ce,AV.strip,f9 l,Ux kl]
def f9:∀l:List Cn,Gn (W7 l)=W7 l
 | []=>rfl
 |k::ks=>by simp[W7,Gn,A7e k,f9 ks]
end
mutual
@[simp] def A7d(n:Nat):∀c:Cn,A0 n (Ag c)=true
 | .mk op m s (.mk kl) names l=>by simp[Ag,Ak,A0,AV.inScope,fy n l,Uw n kl]
def fy(n:Nat):∀l:List Cn,D9 n (W7 l)=true
 | []=>rfl
 |k::ks=>by simp[W7,D9,A7d n k,fy n ks]
end
@[simp] def Art(l:List Cn):Gn (l.map Ag)=l.map Ag:=by rw[<- Abl]; exact f9 l
@[simp] def Ars(n:Nat)(l:List Cn):D9 n (l.map Ag)=true:=by rw[<- Abl]; exact fy n l
def Cn.lt_l{c x:Cn}(h:x∈c.l):SizeOf.sizeOf x<SizeOf.sizeOf c:=by
 cases c;simp only[Cn.l]at h;have:=qh h;simp;omega
def Kd.lt_l{c x:Kd}(h:x∈c.l):SizeOf.sizeOf x<SizeOf.sizeOf c:=by
 cases c;simp only[Kd.l]at h;have:=qh h;simp;omega
def Au{n:Int}(h1: -9223372036854775808<=n)(h2:n<=9223372036854775807):IntKind.i64.wrap n=n:=by
 unfold IntKind.wrap IntKind.signed IntKind.bits;simp;omega
def Ba(k:Kd):AV:=.agg (Ak k)
def Ad(c:Cn):AV:=.agg (Ag c)
@[simp] def Btg(n:Nat)(k:Kd):(Ba k).inScope n=true:=by simp[Ba,AV.inScope]
@[simp] def Bs5(n:Nat)(k:Cn):(Ad k).inScope n=true:=by simp[Ad,AV.inScope]
def jt{k:Kd}(h:Bl (Ak k)):k.l.length<=A1/\∀x∈k.l,Bl (Ak x):=by
 rw[Df k]at h;simp only[Bl,AV.fits,Qo]at h;exact⟨h.1.1,ab h.1.2⟩
def Mv{c:Cn}(h:Bl (Ag c)):IntKind.i64.has c.op/\IntKind.i64.has c.n/\c.s.length<=A1/\c.k.l.length<=A1/\(∀ x∈c.k.l,Bl (Ak x))/\c.names.length<=A1/\(∀ x∈c.names,x.length<=A1)/\c.l.length<=A1/\∀x∈c.l,Bl (Ag x):=by
 rw[Ap c]at h;simp only[Bl,AV.fits,Qo,At]at h;obtain⟨h1,h2,h3,h4,h5,h6,_⟩:=h;exact⟨h1,h2,h3,h4.1,ab h4.2,h5.1,fun x hx=>by simpa[Bl,AV.fits]using ab h5.2 x hx,h6.1,ab h6.2⟩
abbrev B6:=List Kd
abbrev Ax:=List Cn
abbrev O8:=List Sm
def Sm.op:Sm->Int | .mk op _ _ _ _ _ _ _ _=>op
def Sm.n:Sm->Int | .mk _ n _ _ _ _ _ _ _=>n
def Sm.s:Sm->List UInt8 | .mk _ _ s _ _ _ _ _ _=>s
def Sm.con:Sm->Cn | .mk _ _ _ c _ _ _ _ _=>c
def Sm.k:Sm->Kd | .mk _ _ _ _ k _ _ _ _=>k
def Sm.ks:Sm->List Kd | .mk _ _ _ _ _ ks _ _ _=>ks
def Sm.more:Sm->List Kd | .mk _ _ _ _ _ _ m _ _=>m
def Sm.names:Sm->List (List UInt8) | .mk _ _ _ _ _ _ _ ns _=>ns
def Sm.l:Sm->List Sm | .mk _ _ _ _ _ _ _ _ l=>l
mutual
def Bx:Sm->List AV
 | .mk op n s c k ks more names l=>.int .i64 op :: .int .i64 n :: .str s::(Ag c++Ak k++[.sl .none (Uv ks),.sl .none (Uv more),.sl .none (At names),.sl .none (X6 l)])
def X6:List Sm->List (List AV)
 | []=>[]
 |c::cs=>Bx c::X6 cs
end
def Afq(l:O8):X6 l=l.map Bx:=by
 induction l with
 |nil=>rfl
 |cons k l ih=>simp[X6,ih]
def Av(s:Sm):Bx s=[.int .i64 s.op,.int .i64 s.n,.str s.s,.int .i64 s.con.op,.int .i64 s.con.n,.str s.con.s,.sl .none (s.con.k.l.map Ak),.sl .none (At s.con.names),.sl .none (s.con.l.map Ag),
 .sl .none (s.k.l.map Ak),.sl .none (s.ks.map Ak),.sl .none (s.more.map Ak),.sl .none (At s.names),.sl .none (s.l.map Bx)]:=by
 cases s;simp[Bx,Afq,Df,Ap,vd,Sm.op,Sm.n,Sm.s,Sm.con,Sm.k,Sm.ks,Sm.more,Sm.names,Sm.l]
def Bpx(s:Sm):Bx s= .int .i64 s.op :: .int .i64 s.n :: .str s.s::(Ag s.con++[.sl .none (s.k.l.map Ak),.sl .none (s.ks.map Ak),.sl .none (s.more.map Ak),.sl .none (At s.names),.sl .none (s.l.map Bx)]):=by
 rw[Av,Ap]; rfl
@[simp] def Wa(c:Sm):(Bx c).length=14:=by simp[Av]
@[simp] def Bto(c:Sm):(Bx c).take 14=Bx c:=by simp[Av]
@[simp] def Bpw(c:Sm):(Bx c).all AV.isCell=true:=by simp[Av,AV.isCell]
mutual
@[simp] def Bpz:∀c:Sm,Ce (Bx c)=Bx c
 | .mk op n s (.mk o2 n2 s2 (.mk kl2) ns2 l2) (.mk kl) ks more names l=>by
   simp[Bx,Ag,Ak,Ce,AV.strip,Afs l,Ux kl,Ux kl2,Ux ks,Ux more,f9 l2]
def Afs:∀l:List Sm,Gn (X6 l)=X6 l
 | []=>rfl
 |k::ks=>by simp[X6,Gn,Bpz k,Afs ks]
end
mutual
@[simp] def Bpy(n:Nat):∀c:Sm,A0 n (Bx c)=true
 | .mk op m s (.mk o2 n2 s2 (.mk kl2) ns2 l2) (.mk kl) ks more names l=>by
   simp[Bx,Ag,Ak,A0,AV.inScope,Afr n l,Uw n kl,Uw n kl2,Uw n ks,Uw n more,fy n l2]
def Afr(n:Nat):∀l:List Sm,D9 n (X6 l)=true
 | []=>rfl
 |k::ks=>by simp[X6,D9,Bpy n k,Afr n ks]
end
@[simp] def Btq(l:O8):Gn (l.map Bx)=l.map Bx:=by rw[<- Afq]; exact Afs l
@[simp] def Btp(n:Nat)(l:O8):D9 n (l.map Bx)=true:=by rw[<- Afq]; exact Afr n l
def Sm.lt_l{c x:Sm}(h:x∈c.l):SizeOf.sizeOf x<SizeOf.sizeOf c:=by
 cases c;simp only[Sm.l]at h;have:=qh h;simp;omega
def An(c:Sm):AV:=.agg (Bx c)
@[simp] def Btn(n:Nat)(k:Sm):(An k).inScope n=true:=by simp[An,AV.inScope]
def Rj{c:Sm}(h:Bl (Bx c)):c.s.length<=A1/\c.ks.length<=A1/\c.more.length<=A1/\c.names.length<=A1/\c.l.length<=A1/\(∀ x∈c.l,Bl (Bx x)):=by
 rw[Av c]at h;simp only[Bl,AV.fits,Qo,At]at h;obtain⟨h1,h2,h3,_,_,_,_,_,_,h4,h5,h6,h7,h8,_⟩:=h;exact⟨h3,h5.1,h6.1,h7.1,h8.1,ab h8.2⟩
inductive Te where
 |mk (op n:Int) (s:List UInt8) (con to:Cn) (k:Kd) (names:List (List UInt8)) (l:List Te)
def Te.op:Te->Int | .mk op _ _ _ _ _ _ _=>op
def Te.n:Te->Int | .mk _ n _ _ _ _ _ _=>n
def Te.s:Te->List UInt8 | .mk _ _ s _ _ _ _ _=>s
def Te.con:Te->Cn | .mk _ _ _ c _ _ _ _=>c
def Te.to:Te->Cn | .mk _ _ _ _ c _ _ _=>c
def Te.k:Te->Kd | .mk _ _ _ _ _ k _ _=>k
def Te.names:Te->List (List UInt8) | .mk _ _ _ _ _ _ ns _=>ns
def Te.l:Te->List Te | .mk _ _ _ _ _ _ _ l=>l
mutual
def Bi:Te->List AV
 | .mk op n s c d k names l=>.int .i64 op :: .int .i64 n :: .str s::(Ag c++Ag d++Ak k++[.sl .none (At names),.sl .none (X7 l)])
def X7:List Te->List (List AV)
 | []=>[]
 |c::cs=>Bi c::X7 cs
end
def Af1(l:List Te):X7 l=l.map Bi:=by
 induction l with
 |nil=>rfl
 |cons k l ih=>simp[X7,ih]
def Aq(s:Te):Bi s=[.int .i64 s.op,.int .i64 s.n,.str s.s,.int .i64 s.con.op,.int .i64 s.con.n,.str s.con.s,.sl .none (s.con.k.l.map Ak),.sl .none (At s.con.names),.sl .none (s.con.l.map Ag),
 .int .i64 s.to.op,.int .i64 s.to.n,.str s.to.s,.sl .none (s.to.k.l.map Ak),.sl .none (At s.to.names),.sl .none (s.to.l.map Ag),.sl .none (s.k.l.map Ak),.sl .none (At s.names),.sl .none (s.l.map Bi)]:=by
 cases s;simp[Bi,Af1,Df,Ap,Te.op,Te.n,Te.s,Te.con,Te.to,Te.k,Te.names,Te.l]
def Bqt(s:Te):Bi s= .int .i64 s.op :: .int .i64 s.n :: .str s.s::(Ag s.con++(Ag s.to++[.sl .none (s.k.l.map Ak),.sl .none (At s.names),.sl .none (s.l.map Bi)])):=by
 rw[Aq,Ap,Ap]; rfl
@[simp] def o0(c:Te):(Bi c).length=18:=by simp[Aq]
@[simp] def Btw(c:Te):(Bi c).take 18=Bi c:=by simp[Aq]
@[simp] def Bqs(c:Te):(Bi c).all AV.isCell=true:=by simp[Aq,AV.isCell]
mutual
@[simp] def Bqv:∀c:Te,Ce (Bi c)=Bi c
 | .mk op n s (.mk o2 n2 s2 (.mk kl2) ns2 l2) (.mk o3 n3 s3 (.mk kl3) ns3 l3) (.mk kl) names l=>by
   simp[Bi,Ag,Ak,Ce,AV.strip,Af3 l,Ux kl,Ux kl2,Ux kl3,f9 l2,f9 l3]
def Af3:∀l:List Te,Gn (X7 l)=X7 l
 | []=>rfl
 |k::ks=>by simp[X7,Gn,Bqv k,Af3 ks]
end
mutual
@[simp] def Bqu(n:Nat):∀c:Te,A0 n (Bi c)=true
 | .mk op m s (.mk o2 n2 s2 (.mk kl2) ns2 l2) (.mk o3 n3 s3 (.mk kl3) ns3 l3) (.mk kl) names l=>by
   simp[Bi,Ag,Ak,A0,AV.inScope,Af2 n l,Uw n kl,Uw n kl2,Uw n kl3,fy n l2,fy n l3]
def Af2(n:Nat):∀l:List Te,D9 n (X7 l)=true
 | []=>rfl
 |k::ks=>by simp[X7,D9,Bqu n k,Af2 n ks]
end
@[simp] def Bty(l:List Te):Gn (l.map Bi)=l.map Bi:=by rw[<- Af1]; exact Af3 l
@[simp] def Btx(n:Nat)(l:List Te):D9 n (l.map Bi)=true:=by rw[<- Af1]; exact Af2 n l
def Te.lt_l{c x:Te}(h:x∈c.l):SizeOf.sizeOf x<SizeOf.sizeOf c:=by
 cases c;simp only[Te.l]at h;have:=qh h;simp;omega
def Ah(c:Te):AV:=.agg (Bi c)
@[simp] def Btv(n:Nat)(k:Te):(Ah k).inScope n=true:=by simp[Ah,AV.inScope]
def Zn{c:Te}(h:Bl (Bi c)):IntKind.i64.has c.n/\c.s.length<=A1/\c.names.length<=A1/\(∀ x∈c.names,x.length<=A1)/\c.l.length<=A1/\∀x∈c.l,Bl (Bi x):=by
 rw[Aq c]at h;simp only[Bl,AV.fits,Qo,At]at h;obtain⟨_,h2,h3,_,_,_,_,_,_,_,_,_,_,_,_,_,h4,h5,_⟩:=h;exact⟨h2,h3,h4.1,fun x hx=>by simpa[Bl,AV.fits]using ab h4.2 x hx,h5.1,ab h5.2⟩
structure El where
 ks:List Kd
 w:List Cn
 pure:Bool
 s:Sm
 t:Te
def Es(e:El):List AV:=.sl .none (e.ks.map Ak) :: .sl .none (e.w.map Ag) :: .bool e.pure::(Bx e.s++Bi e.t)
@[simp] def Btb(e:El):(Es e).length=35:=by simp[Es]
@[simp] def Btd(e:El):(Es e).take 35=Es e:=Gj Ab
@[simp] def Bta(e:El):(Es e).drop 35=[]:=A3n Ab
@[simp] def Bs9(e:El):(Es e).all AV.isCell=true:=by
 simp only[Es,Er,Wm,Bpw,Bqs]; rfl
def A1c:∀(a b:List AV),Ce (a++b)=Ce a++Ce b
 | [],b=>rfl
 |x::xs,b=>by simp[Ce,A1c xs b]
def A0m(n:Nat):∀(a b:List AV),A0 n (a++b)=(A0 n a&&A0 n b)
 | [],b=>rfl
 |x::xs,b=>by simp[A0,A0m n xs b,Ya]
@[simp] def A78(e:El):Ce (Es e)=Es e:=by
 simp[Es,Ce,AV.strip,A1c]
@[simp] def Btc(n:Nat)(e:El):A0 n (Es e)=true:=by
 simp[Es,A0,AV.inScope,A0m]
def As(e:El):AV:=.agg (Es e)
@[simp] def Bs8(n:Nat)(e:El):(As e).inScope n=true:=by simp[As,AV.inScope]
def A7(e:El):Es e=[.sl .none (e.ks.map Ak),.sl .none (e.w.map Ag),.bool e.pure,
 .int .i64 e.s.op,.int .i64 e.s.n,.str e.s.s,.int .i64 e.s.con.op,.int .i64 e.s.con.n,.str e.s.con.s,.sl .none (e.s.con.k.l.map Ak),.sl .none (At e.s.con.names),.sl .none (e.s.con.l.map Ag),
 .sl .none (e.s.k.l.map Ak),.sl .none (e.s.ks.map Ak),.sl .none (e.s.more.map Ak),.sl .none (At e.s.names),.sl .none (e.s.l.map Bx),
 .int .i64 e.t.op,.int .i64 e.t.n,.str e.t.s,.int .i64 e.t.con.op,.int .i64 e.t.con.n,.str e.t.con.s,.sl .none (e.t.con.k.l.map Ak),.sl .none (At e.t.con.names),.sl .none (e.t.con.l.map Ag),
 .int .i64 e.t.to.op,.int .i64 e.t.to.n,.str e.t.to.s,.sl .none (e.t.to.k.l.map Ak),.sl .none (At e.t.to.names),.sl .none (e.t.to.l.map Ag),.sl .none (e.t.k.l.map Ak),.sl .none (At e.t.names),.sl .none (e.t.l.map Bi)]:=by
 rw[Es,Av,Aq]; rfl
abbrev Na:=List Te
