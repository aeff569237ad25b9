/- A part of the proof that LiftApplies answers true. -/
import Derived.Test.YtndkeknbfbdeeaaGreatDoorG25
import Derived.Laws.Externs
import Derived.Lib.Walk
import Derived.WalkKit
import Derived.Shelf.Abstract
set_option linter.all false
set_option maxHeartbeats 4000000
set_option maxRecDepth 100000
namespace Go.Proofs.YtndkeknbfbdeeaaGreatDoor
open Go
variable {H:Ai}{f:FuncId}{e:Int}{P:Program}
section
attribute [-simp] Int.not_lt Int.not_le
attribute [local simp] Cb Cq
def A4r:Hc 10 [Ad l5,Ba (.mk [])] (Cf (rj,0)):=Vo mixed W0 Wz 40 _ _ [] _ [] A5
def A4s:Hc 24 [Ah Aa5] (.bool true):=Vo mixed W0 Wz 40 _ _ [] _ [] A5
def A4t:Hc 24 [Ah rk] (.bool true):=Vo mixed W0 Wz 40 _ _ [] _ [] A5
def A4p:Hc 12 [Ad Vj] (.tup [.str [40,102,110,32,42,46,32,40,102,110,32,42,46,32,105,110,116,41,41],.int .i64 0]):=Vo mixed W0 Wz 40 _ _ [] _ [] A5
def A4q:Hc 12 [Ad Mr] (.tup [.str [40,40,35,50,32,35,49,41,32,35,48,41],.int .i64 0]):=Vo mixed W0 Wz 40 _ _ [] _ [] A5
def aw_w0:Hc 13 [.sl .none ([Vj].map Ag)] (Ad Vj):=Vo mixed W0 Wz 40 _ _ [] _ [] A5
def aw_u0:Hc 14 [An N8] (Ad Mr):=Vo mixed W0 Wz 40 _ _ [] _ [] A5
def oz{n m:Int}{k:Kd}{ns:List Bu}{l:Na}{c:Cn}(hc:Al c<=1000000000000)(h:∀x∈l,Dg x):Dg (.mk n m [] c A3 k ns l):=by
 rw[We]; exact⟨hc,by show Al A3<=_;decide,h⟩
def aw_tb:Dg Aa5:=oz Di fun x hx=>by
 rw[List.mem_singleton.1 hx]
 exact oz Di fun x hx=>by
  rw[List.mem_singleton.1 hx]
  exact oz Di fun x hx=>by
   rw[List.mem_singleton.1 hx];exact oz Di fun x hx=>by cases hx
def aw_eb:Kv Sx:=⟨Aa4,aw_tb,fun x hx=>by rw[List.mem_singleton.1 hx]; decide⟩
def aw_xb:Kv Vk:=⟨Aih,oz Di (fun x hx=>by cases hx),fun x hx=>by rw[List.mem_singleton.1 hx]; decide⟩
def aw_fe:Hc 22 [As Sx] (.bool true):=by
 have h:=Adi Sx aw_eb true A4s;have e:(J2 Sx.ks&&Cu Sx.s&&true&&Sx.w.all Ar&&On Sx)=true:=A5;rwa [e]at h
def aw_fx:Hc 22 [As Vk] (.bool true):=by
 have h:=Adi Vk aw_xb true A4t;have e:(J2 Vk.ks&&Cu Vk.s&&true&&Vk.w.all Ar&&On Vk)=true:=A5;rwa [e]at h
def A4u:HP 25 [.fn (.func 71) [] [.ptr 0 0,.ptr 1 0]] Ym (Cr (Vk,0)) Ym:=by
 have h:=Avd (H:=Ym) (H':=Ym) aw_fx rfl (by simp[Ym,L4,Be,A0,AV.inScope]) A4w;simpa using h
def Ada{a b c c' d:HB}{i:Nat}{cs:Ao}(hb:(!decide (i=2))=true)(h:[a,b,c,d][i]? =some (.var cs)):[a,b,c',d][i]? =some (.var cs):=by
 rcases i with _|_|_|_|i
 . exact h
 . exact h
 . simp at hb
 . exact h
 simp at h
def A4o:Hc 11 [As Sx,.sl .none (fm.map Ak)] (.tup [.sl .none ([l6].map Ak),.sl .none ([Vj].map Ag),An N8,.int .i64 0]):=by
 have h1:=aw_fe;have h2:=Avh fm;have e2:J2 fm=true:=A5;rw[e2]at h2;have h3:=A4u;have hp:Sx.pure=true:=rfl;unfold Ym at h3;have hx:Cr (Vk,0)= .tup [.agg (.sl .none ([l6].map Ak) :: .sl .none ([Vj].map Ag) :: .bool true::(Bx N8++Bi rk)),.int .i64 0]:=rfl;rw[hx]at h3;clear hx e2;generalize Sx=e at h1 h3 hp ⊢;generalize fm=ps at h2 h3 ⊢;generalize [l6]=ks at h3 ⊢;generalize [Vj]=ws at h3 ⊢;generalize N8=s at h3 ⊢;generalize rk=t at h3;refine Hg Bd3 fun Q hQ=>?_;simp[As,A7 e,hp];refine Ca h1 ?_ (he:=by simp[As,A7 e,hp]);simp;refine Ca h2 ?_;simp;refine C1 (by simpa[L4,A7 e,hp]using h3) ?_;simp[Av s,Aq t];refine Gr (fun b=>decide (b≠2)) [] Bc Bc ?_;simp;refine⟨fun b cs hb hh=>Ada hb hh,?_⟩;exact hQ (by simp[An,Av s])
def A41:lh:=by
 have h1:=A4r;have h2:=A4o;have h3:=aw_w0;have h4:=aw_u0;have h5:=A4p;have h6:=A4q;have he:As Sx= .agg [.sl .none [[.sl .none []]],.sl .none [[.int .i64 4,.int .i64 0,.str [],.sl .none [],.sl .none [],.sl .none []]],.bool true,.int .i64 5,.int .i64 0,.str [],.int .i64 0,.int .i64 0,.str [],.sl .none [],.sl .none [],.sl .none [],.sl .none [],.sl .none [],.sl .none [],.sl .none [[.str [116,121,112,101,46,116]]],.sl .none [[.int .i64 2,.int .i64 0,.str [],.int .i64 1,.int .i64 0,.str [],.sl .none [],.sl .none [],.sl .none [],.sl .none [],.sl .none [],.sl .none [],.sl .none [],.sl .none []]],.int .i64 10,.int .i64 0,.str [],.int .i64 0,.int .i64 0,.str [],.sl .none [],.sl .none [],.sl .none [],.int .i64 0,.int .i64 0,.str [],.sl .none [],.sl .none [],.sl .none [],.sl .none [],.sl .none [[.str [116,121,112,101,46,116]]],.sl .none [Bi rj]]:=Bc;have hps:fm.map Ak=[[.sl .none []],[.sl .none []]]:=Bc;have hk:[l6].map Ak=[[.sl .none [[.sl .none []],[.sl .none [[.sl .none []],[.sl .none []]]]]]]:=Bc;have hi:Ad l5= .agg [.int .i64 4,.int .i64 0,.str [],.sl .none [],.sl .none [],.sl .none []]:=Bc;have Vu:Ba (.mk [])= .agg [.sl .none []]:=Bc;have hw:[Vj].map Ag=[Ag Vj]:=rfl;rw[he,hps,hk,hw]at h2;rw[hw]at h3;rw[hi,Vu]at h1;clear he hps hk hi Vu hw;generalize rj=t0 at h1 h2;generalize Vj=w at h2 h3 h5;generalize N8=s at h2 h4;generalize Mr=u at h4 h6;unfold lh;refine Hg Bes fun Q hQ=>?_;simp[Dx];refine Ca h1 ?_;simp[Cf,Ah,Aq t0,Dx];refine Ca h2 ?_;simp[An,Av s];refine Ca h3 ?_;simp[Ad,Ap w];refine Ca h5 ?_;simp;refine Ca h4 ?_;simp[Ad,Ap u];refine Ca h6 ?_;simp;exact hQ
end
section
open Go.RowKit Go.Shelf Go.Proofs
def A3h(n:Nat)(w:World)(h0:0<n)(hn:n<=1000000000):
 Calls Tryz.prog 100 #[.slice none 0 0,.int .i64 n] w fun e w'=>∃(nc:Nat) (cs:Array Value),n<=nc/\cs.size=nc*6/\e= .returned (.slice (some ⟨w.heap.size,0,none⟩) 0 nc)/\w'= {w with drawn:=w.drawn+1,heap:=w.heap.push (.cells cs 28)}:=by
 have hb:Tryz.t28.bytes=104:=A5;have hneg:¬((n:Int)<0):=Aa;have Gf:(0:Int)<(n:Int):=Aa
 have hA:¬281474976710656<Builtin.nextslicecap n 0*Tryz.t28.bytes:=by
  have:=growslice_fits (need:=n) (old:=0) (bytes:=104) h0 Aa;rw[hb]; omega
 have hB:(n:Int)*(Tryz.t28.bytes:Int)<=281474976710656:=by rw[hb]; omega
 have hC:(n:Int)<=9223372036854775807:=Aa;have hD:¬n=0:=Aa;clear hb
 go_enter Tryz.func100,Tryz.ntmps100
 go_wp2
 all_goals first
  |(exfalso;omega)
  |(go_ret
    refine⟨(Question.appendCap n 0 28).cut (w.tape w.drawn (Question.appendCap n 0 28)),by simp only[Question.cut]; omega,_,?_,rfl,rfl⟩
    simp[Builtin.zeroCells,Question.cut,Pr])
def A3i(w:World):Calls Tryz.prog 100 #[.slice none 0 0,.int .i64 0] w fun e w'=>e= .returned (.slice none 0 0)/\w'=w:=by
 go_enter Tryz.func100,Tryz.ntmps100
 go_wp2
 all_goals go_ret
 all_goals exact⟨rfl,rfl⟩
def mw(n:Nat)(H:List HB):AV:=if n=0 then .sl .nilT []else .sl (.own H.length) []
def Yt(n:Nat)(H:List HB):List HB:=if n=0 then H else H++[.tok 0 6 28]
def Bpl(n:Nat)(hn:n<=1000000000)(H:Ai):HP 100 [.sl .nilT [],.int .i64 n] H (mw n H) (Yt n H):=by
 refine⟨A5,fun F g w vs _ hs hr=>?_⟩;obtain⟨v,u,rfl,hv,hu⟩:=lx hr;obtain rfl:u= .int .i64 n:=(L6 hu).1
 obtain rfl:v= .slice none 0 0:=by
  obtain⟨_,h|⟨_,_,_,_,_,_,_,_,_,h⟩⟩:=L7 hv
  . exact h.2.1
  exact absurd h (by simp[RT])
 by_cases h0:n=0
 . subst h0;refine(A3i w).mono ?_;rintro _ w' ⟨rfl,rfl⟩;refine⟨_,F,g,rfl,by simpa[mw]using hv,by simpa[Yt]using hs,by simpa[Yt]using Bn.refl _ _ _ _⟩
 refine(A3h n w Aa hn).mono ?_;rintro _ w' ⟨nc,cs,h1,h2,rfl,rfl⟩
 obtain⟨F',g',f0,f1,f2,f3,f4⟩:=Aay hs (H':=H++[.tok 0 6 28]) (t:=H.length) (n:=0) (k:=6) (cap:=nc) (ty:=28) Ab (fun x hx=>by
  by_cases Af:x<H.length
  . rw[D5 Af]
  . rw[Im (by simp;omega),Im Aa]) Ab Ab (.inl rfl) (vs:=cs) (e:=28) (fun _=>rfl) Aa (Nl _)
  (w':={w with drawn:=w.drawn+1,heap:=w.heap.push (.cells cs 28)}) rfl ⟨rfl,rfl⟩
 refine⟨_,F',g',rfl,?_,by simpa[Yt,h0]using f1,by simpa[Yt,h0]using f2⟩;simp only[mw,Ac h0,R];exact⟨Ab,.inr ⟨w.heap.size,0,none,nc,6,rfl,Nl _,⟨Aa,Ab⟩,by simp[RE],⟨_,_,f4,Bm _,fun _=>⟨f3,rfl,rfl,rfl⟩⟩⟩⟩
end
section
attribute [-simp] Int.not_lt Int.not_le
def A9o(n:Nat):∃tok,mw n []= .sl tok []/\owns 0 (Yt n []) tok [] 6:=by
 unfold mw Yt;by_cases h:n=0
 . rw[Ae h,Ae h]; exact⟨_,rfl,Fp _ _ _⟩
 rw[Ac h,Ac h]; exact⟨_,rfl,.inr ⟨0,28,rfl,rfl⟩⟩
def Px:List (List Cn)->List Cn
 | []=>[]
 |l::ls=>l++Px ls
def Atg:∀(ls:List (List Cn)) (k:Nat) (h:k<ls.length),Px (ls.take (k+1))=Px (ls.take k)++ls[k]
 | [],k,h=>by simp at h
 |l::ls,0,_=>by simp[Px]
 |l::ls,k+1,h=>by
  simp only[Yf,Px,ej];rw[Atg ls k (by simpa using h),Ow]
attribute [local simp] Cb Cq
def Nb:List (List Cn)->Nat
 | []=>0
 |l::ls=>l.length+Nb ls
def Au9(ls:List Ax)(k:Nat)(h:k<ls.length):Nb (ls.take (k+1))=Nb (ls.take k)+ls[k].length:=by
 induction ls generalizing k with
 |nil=>simp at h
 |cons l ls ih=>
  cases k with
  |zero=>simp[Nb]
  |succ k=>
   simp only[Yf,Nb,ej];rw[ih k (by simpa using h)]; omega
def Au8(ls:List Ax)(k:Nat):Nb (ls.take k)<=Nb ls:=by
 induction ls generalizing k with
 |nil=>simp
 |cons l ls ih=>
  cases k with
  |zero=>simp[Nb]
  |succ k=>simp only[Yf,Nb]; have:=ih k;omega
def Ba2(ls:List Ax):(Px ls).length=Nb ls:=by
 induction ls with
 |nil=>rfl
 |cons l ls ih=>simp[Nb,Px,ih]
def ju(ls:List (List Cn)):List (List AV):=ls.map fun l=>[.sl .none (l.map Ag)]
def Bpd(ls:List Ax)(hT:Nb ls<=1000000000):Hc 30 [.sl .none (ju ls)] (.sl .none ((Px ls).map Ag)):=by
 refine Hf Bip fun Am Q hQ=>?_;have B5:ls.length<=1073741824:=by simpa[Bl,AV.fits,A1,ju]using Am.1.1
 clear Am;simp[ju];refine WL [] (fun n f h G=>∃k:Nat,k+n=ls.length/\f 11= .int .i64 k/\f 3= .int .i64 (Nb (ls.take k))/\G=[]) (ls.length) Ab ⟨0,Ab,rfl,rfl,rfl⟩ ?_;rintro n f h G ⟨k,hk,Fw,h3,rfl⟩ Q2 Aj;simp[Fw,h3];by_cases Af:k<ls.length
 . have ht:=Au9 ls k Af;have hle:=Au8 ls (k+1);have hnn:¬((Nb (ls.take k):Int)+(ls[k].length:Int)<0):=Aa;simp[Af,Au (n:=(k:Int)+1) Aa Aa,Au (n:=(Nb (ls.take k):Int)+(ls[k].length:Int)) Aa Aa,hnn];refine Aj (Ln h ?_);refine⟨k+1,Aa,Ab,?_,rfl⟩;simp[ht]
 have Dk:ls.take k=ls:=Gj Aa;simp[Af,Dk];refine Aj (Lx ?_);simp;obtain⟨tok0,hv,ho⟩:=A9o (Nb ls);have S4:=Bpl (Nb ls) Aa [];rw[hv]at S4;generalize Yt (Nb ls) []=G0 at S4 ho;refine C1 (r:=.sl tok0 []) (by simpa using S4) ?_;simp;refine Ip (A9.loopG (A:=[]) (G0:=G0) [] (fun n f h G=>∃(k:Nat) (tok:Dh),k+n=ls.length/\f 27= .int .i64 k/\f 6= .sl tok ((Px (ls.take k)).map Ag)/\owns 0 G tok ((Px (ls.take k)).map Ag) 6) ls.length Ab ⟨0,tok0,Ab,rfl,rfl,by simpa[Px]using ho⟩ ?_);clear Af Dk hk Fw h3 S4 ho hv Aj Q2;rintro n f h G ⟨k,tok,hk,ai,h6,Bt⟩;refine Ru fun Q2 Aj=>?_;simp[ai,h6];by_cases Af:k<ls.length
 . have ht:=Au9 ls k Af;have hle:=Au8 ls (k+1);have Ji:=Ba2 (ls.take k);simp[Af];refine ey (A:=[]) (by simpa using Bt) (by simp[A1]; omega) (Ea _ _ Iq) (Ea _ _ Iq) fun tok' G' Bv Ei=>?_;simp[Au (n:=(k:Int)+1) Aa Aa];refine Aj (Ln h ?_);have e:(Px (ls.take (k+1))).map Ag=(Px (ls.take k)).map Ag++ls[k].map Ag:=by rw[Atg _ _ Af]; simp
   refine⟨k+1,tok',Aa,Ab,?_,?_⟩
   . rw[e]; simp
   rw[e]; exact Bv
 have Dk:ls.take k=ls:=Gj Aa;simp[Af,Dk];refine Aj (Lx ?_);simp;exact hQ
def A6q(a b:Ax):Px [a,b]=a++b:=by simp[Px]
def A6r(a b c:B6):N9 [a,b,c]=a++b++c:=by simp[N9]
def vC(i:Int):List AV:=[.int .i64 1,.int .i64 i,.str [],.sl .nilT [],.sl .nilT [],.sl .nilT []]
def Bsh(l:F6):Gn (l.map vC)=(l.map Ch).map Ag:=by
 induction l with
 |nil=>rfl
 |cons i l ih=>rw[F8,F8,F8,Gn,ih]; congr 1
def Bbx(m:Nat)(hm:m<=1000000):Hc 106 [.int .i64 m] (.sl .none (((List.range m).map fun i:Nat=>Ch (i:Int)).reverse.map Ag)):=by
 obtain⟨L,hL⟩:∃L:F6,L=(List.range m).map fun i:Nat=>(i:Int):=⟨_,rfl⟩;have hlen:L.length=m:=by rw[hL]; simp
 have Lj:∀k (h:k<L.length),L[k]=(k:Int):=fun k h=>by simp[hL]
 have Hr:((List.range m).map fun i:Nat=>Ch (i:Int)).reverse=L.reverse.map Ch:=by rw[hL,<-Ag8,<-Ag8,yq]; rfl
 rw[Hr];clear hL Hr;refine Hg Bd8 fun Q hQ=>?_;simp[Au (n:=(m:Int)-1) Aa Aa];refine WL [] (fun n f h G=>∃(tok:Dh) (done:F6),n<=m/\done=(L.drop n).reverse/\f 4= .int .i64 ((n:Int)-1)/\f 3= .sl tok (done.map vC)/\owns 0 G tok (done.map vC) 6) (m) Ab ⟨.nilT,[],Bm _,by rw[Cm Aa]; rfl,rfl,rfl,Fp _ _ _⟩ ?_;rintro n f h G ⟨tok,done,hn,I5,h4,h3,Bt⟩ Q2 Aj;simp[h4,h3];by_cases Af:1<=n
 . have Cc:(0:Int)<=(n:Int)-1:=by omega
   have Se:(1:Int)<=(n:Int):=Aa;have hk:n-1<L.length:=Aa;have hd:=Ct hk;rw[show n-1+1=n by omega,Lj]at hd;have e2:(L.drop (n-1)).reverse=done++[((n-1:Nat):Int)]:=by rw[hd,I5]; simp
   have e3:((n-1:Nat):Int)=(n:Int)-1:=Aa;rw[e3]at e2;have S6:done.length+1<=m:=by rw[I5]; simp;omega
   clear I5 hd;simp[Se,Dx];refine Ss (A:=[]) (by simpa using Bt) (by simp[A1]; omega) (Ea _ _ fun _=>rfl) Ab fun tok' G' Bv Ei=>?_;simp[Au (n:=(n:Int)-1-1) Aa Aa];refine Aj (Ln h ?_);exact⟨tok',done++[(n:Int)-1],Aa,e2.symm,by simp;omega,by simp[vC],by simpa[vC]using Bv⟩
 have Cc:¬(0:Int)<=(n:Int)-1:=by omega
 have Se:¬(1:Int)<=(n:Int):=Aa;obtain rfl:n=0:=Aa;have e2:done=L.reverse:=by rw[I5]; simp
 rw[<- e2]at hQ;have Hb:=Bsh done;have E7:D9 0 ((done.map Ch).map Ag)=true:=by generalize done.map Ch=q;simp
 rw[yq]at E7;simp;refine Aj (Lx ?_);simp;exact hQ (by simp[Hb,E7])
def Avc(f:Te)(l:Ax)(x:Te):Hc 32 [Ah f,.sl .none (l.map Ag),Ah x] (Ah (C5 5 0 [l.foldl Gi f,x])):=by
 refine Hf Adx fun Am Q hQ=>?_;have B5:l.length<=1073741824:=by simpa[Bl,AV.fits,A1]using Am.2.1.1
 clear Am;simp[Ah,Aq f,Aq x];refine Ip (A9.loopS (fun cs:Ao=>[.var cs,.var (Bi x),.var Hy]) (fun n g cs G=>∃(k:Nat) (z:Te),k+n=l.length/\g 11= .int .i64 k/\z=(l.take k).foldl Gi f/\Rr cs z) l.length (Bi f) [] (by simp[Aq f,Aq x,Hy]) ⟨0,f,Ab,rfl,rfl,.of f⟩ ?_);rintro n g cs G ⟨k,z,hk,Fw,hz,B7⟩;have g1:=B7.n;have g2:=B7.take;have g3:=B7.drop;have g4:=B7.a;have g5:=B7.cells;refine Ru fun Q2 Aj=>?_;simp[Fw];by_cases Af:k<l.length
 . have Cc:(k:Int)<(l.length:Int):=by omega
   have h0:(0:Int)<=(k:Int):=Aa;have ht:=Nj l k Af;have hn2:Gi z l[k]=(l.take (k+1)).foldl Gi f:=by rw[ht,Ag5,<-hz]; rfl
   clear ht hz;simp[Af,h0,Au (n:=(k:Int)+1) Aa Aa,Ap l[k],Dx,g1,g2,g3,g4];refine Aj (Rb (n-1) _ (G':=G++[_]) rfl Aa Ab ?_);exact⟨k+1,Gi z l[k],Aa,Ab,hn2,A1l B7 _ _ _ _ _ _ _⟩
 have Cc:¬(k:Int)<(l.length:Int):=by omega
 rw[Gj Aa]at hz;rw[<- hz]at hQ;have Ke:=Xu 5 0 [z,x];generalize C5 5 0 [z,x]=y at Ke hQ;simp[Af];refine Aj (Sk ?_);show KE _ 0 _ Q _ _;simp[g1,g2,g4,Hy,Aq x,Dx];refine Ca Ke ?_ (he:=by simp[B7.s,Aq x]);simp[Ah,Aq y];exact hQ (by simp[Ah,Aq y])
end
section
open Go.RowKit
attribute [-simp] Int.not_lt Int.not_le
attribute [local simp] Cb Cq
def Ee(ks:List Kd)(s:Sm):Sm:=.mk 4 0 [] A3 (.mk []) ks [] [] [s]
def Agm(ks:B6)(s:Sm):Bx (Ee ks s)=[.int .i64 4,.int .i64 0,.str [],.int .i64 0,.int .i64 0,.str [],.sl .none [],.sl .none [],.sl .none [],.sl .none [],.sl .none (ks.map Ak),.sl .none [],.sl .none [],.sl .none [Bx s]]:=by
 rw[Ee,Afp]; rfl
noncomputable def Iz(s:Sm)(ks:List Kd)(l:List Cn):Sm×Int:=
 if(Ga (Ee ks s) l.reverse).2≠0 then(Dl,(Ga (Ee ks s) l.reverse).2)else
 if(J3 (Ga (Ee ks s) l.reverse).1).2≠0 then(Dl,(J3 (Ga (Ee ks s) l.reverse).1).2)else
 ((J3 (Ga (Ee ks s) l.reverse).1).1.l.head?.getD Dl,0)
def og(s:Sm)(ks:B6)(l:Ax):Iz s ks l=if(Ga (Ee ks s) l.reverse).2≠0 then(Dl,(Ga (Ee ks s) l.reverse).2)else if(J3 (Ga (Ee ks s) l.reverse).1).2≠0 then(Dl,(J3 (Ga (Ee ks s) l.reverse).1).2)else((J3 (Ga (Ee ks s) l.reverse).1).1.l.head?.getD Dl,0):=rfl
def Bsr{ks:B6}{s:Sm}(h:Dd s):Dd (Ee ks s):=by
 rw[Ju]; exact⟨by show Al A3<=_;decide,fun x hx=>by
  have:x=s:=by simpa[Ee,Sm.l]using hx
  rw[this]; exact h⟩
def Bbu(s:Sm)(ks:B6)(l:Ax)(u:Sm)(e:Int)(he:e≠0)(D4:Hc 95 [An (Ee ks s),.sl .none (l.reverse.map Ag)] (Db (u,e))):
 Ft Tryz.prog 28 [An s,.sl .none (ks.map Ak),.sl .none (l.map Ag)] [] e []:=by
 have G9:=nw l;generalize l.reverse=l' at D4 G9;refine Ft.go mixed n8 Ab Ab fun Am=>?_;letI:D6:=K5 e [];clear Am;simp[An,Av s];refine Gr (fun _=>true) [] Bc Bc ?_;simp;refine Da G9 ?_;simp;refine Da D4 ?_ (he:=by simp[An,Agm,Av s]);simp[Db,An,Av u];refine⟨fun b cs _ hb=>by simpa using E4 (L:=[_]) hb,?_⟩;exact Ve (Xy e he) Ab Ab ⟨_,rfl⟩
def Bbv(s:Sm)(ks:B6)(l:Ax)(u v:Sm)(e:Int)(he:e≠0)(D4:Hc 95 [An (Ee ks s),.sl .none (l.reverse.map Ag)] (Db (u,0)))
 (Ii:Hc 98 [An u] (Db (v,e))):
 Ft Tryz.prog 28 [An s,.sl .none (ks.map Ak),.sl .none (l.map Ag)] [] e []:=by
 have G9:=nw l;generalize l.reverse=l' at D4 G9;refine Ft.go mixed n8 Ab Ab fun Am=>?_;letI:D6:=K5 e [];clear Am;simp[An,Av s];refine Gr (fun _=>true) [] Bc Bc ?_;simp;refine Da G9 ?_;simp;refine Da D4 ?_ (he:=by simp[An,Agm,Av s]);simp[Db,An,Av u];refine⟨fun b cs _ hb=>by simpa using E4 (L:=[_]) hb,?_⟩;refine Ca U0 ?_;simp;refine Ca Ii ?_;simp[Db,An,Av v];exact Ve (Xy e he) Ab Ab ⟨_,rfl⟩
def Bbw(s:Sm)(ks:B6)(l:Ax)(u v r:Sm)(D4:Hc 95 [An (Ee ks s),.sl .none (l.reverse.map Ag)] (Db (u,0)))
 (Ii:Hc 98 [An u] (Db (v,0))) (hv:v.l=[r]):
 Hc 28 [An s,.sl .none (ks.map Ak),.sl .none (l.map Ag)] (An r):=by
 have G9:=nw l;generalize l.reverse=l' at D4 G9;refine Hg n8 fun Q hQ=>?_;simp[An,Av s];refine Gr (fun _=>true) [] Bc Bc ?_;simp;refine Da G9 ?_;simp;refine Da D4 ?_ (he:=by simp[An,Agm,Av s]);simp[Db,An,Av u];refine⟨fun b cs _ hb=>by simpa using E4 (L:=[_]) hb,?_⟩;refine Ca U0 ?_;simp;refine Ca Ii ?_;simp[Db,An,Av v,hv,Av r];refine Ca U0 ?_;simp;exact hQ (by simp[An,Av r])
def Bbt(s:Sm)(ks:B6)(l:Ax)(hc:Dd s)(hl:∀x∈l,Al x<=1000000000000):
 Kr Tryz.prog 28 [An s,.sl .none (ks.map Ak),.sl .none (l.map Ag)] (An (Iz s ks l).1) (Iz s ks l).2:=by
 have D4:=A0n (Ee ks s) l.reverse (Bsr hc) (fun x hx=>hl x (by simpa using hx));have hok:=@xh (Ee ks s) l.reverse;have key:=og s ks l;generalize Iz s ks l=p at key ⊢;generalize Ga (Ee ks s) l.reverse=q at D4 hok key;obtain⟨u,e⟩:=q;simp only at key;by_cases he:e=0
 case neg=>
  rw[Ae he]at key;subst key;exact⟨fun h=>absurd h he,fun _=>Bbu s ks l u e he D4⟩
 subst he;rw[Ac Ab]at key;obtain⟨k1,k2,k3⟩:=hok rfl;have Ii:=Bor u (ib k2);have Acs:=@Av3 u;generalize J3 u=q at Ii Acs key;obtain⟨v,e⟩:=q;simp only at key Acs k3;by_cases he:e=0
 case neg=>
  rw[Ae he]at key;subst key;exact⟨fun h=>absurd h he,fun _=>Bbv s ks l u v e he D4 Ii⟩
 subst he;rw[Ac Ab]at key;obtain⟨m1,m2,m3⟩:=Acs rfl;have Qa:=(U2 ((X9 v).1 (Vr m2)).1).2.1 (by rw[m3,k3]; rfl)
 obtain⟨r,hr⟩:∃r,v.l=[r]:=by
  generalize v.l=L at Qa
  match L,Qa with
  | [r],_=>exact⟨r,rfl⟩
 rw[hr]at key;subst key;exact⟨fun _=>Bbw s ks l u v r D4 Ii hr,fun h=>absurd rfl h⟩
def Bbq(ks:B6)(s:Sm)(t:Te)(l:Ax)(Vy:Hc 106 [.int .i64 ks.length] (.sl .none (l.map Ag)))(e:Int)(Br:Ft Tryz.prog 29 [An s,.int .i64 ks.length,.int .i64 ks.length] [] e []):
 Ft Tryz.prog 36 [.sl .none (ks.map Ak),An s,Ah t] [] e []:=by
 refine Ft.go mixed Ad1 Ab Ab fun Am=>?_;letI:D6:=K5 e [];clear Am;simp[An,Av s,Ah,Aq t];refine A34 (fun _=>true) [] 23 mixed Bc Bc ?_;simp;refine Agy (.agg L8) Br Ab (by simp[An,Av s]) (fun H hk=>⟨H,rfl⟩) ?_;simp[L8];refine Da Vy ?_;simp;refine J5 (fun H=>Mw V7 _ Bc (.tup [.agg Eh,.int .i64 0]) H) ?_;simp[Eh];exact⟨fun b cs _ hb=>by simpa using E4 (L:=[_]) hb,Rx _⟩
def Bbr(ks:B6)(s u:Sm)(t p:Te)(l:Ax)(Vy:Hc 106 [.int .i64 ks.length] (.sl .none (l.map Ag)))(Br:Hc 29 [An s,.int .i64 ks.length,.int .i64 ks.length] (An u))
 (e:Int) (he:e≠0) (S9:Hc 105 [C8 ks u,.sl .none (l.map Ag),Ah t] (Cf (p,e))):
 Ft Tryz.prog 36 [.sl .none (ks.map Ak),An s,Ah t] [] e []:=by
 refine Ft.go mixed Ad1 Ab Ab fun Am=>?_;letI:D6:=K5 e [];clear Am;simp[An,Av s,Ah,Aq t];refine Gr (fun _=>true) [] Bc Bc ?_;simp;refine Da Br ?_;simp[An,Av u];refine Da Vy ?_;simp;refine Da S9 ?_;simp[Cf,Ah,Aq p];refine⟨fun b cs _ hb=>by simpa using E4 (L:=[_]) hb,?_⟩;exact Ve (Xy e he) Ab Ab ⟨_,rfl⟩
def Bbs(ks:B6)(s u:Sm)(t p:Te)(l:Ax)(Vy:Hc 106 [.int .i64 ks.length] (.sl .none (l.map Ag)))(Br:Hc 29 [An s,.int .i64 ks.length,.int .i64 ks.length] (An u))
 (S9:Hc 105 [C8 ks u,.sl .none (l.map Ag),Ah t] (Cf (p,0))):
 Hc 36 [.sl .none (ks.map Ak),An s,Ah t] (Ah p):=by
 refine Hg Ad1 fun Q hQ=>?_;simp[An,Av s,Ah,Aq t];refine Gr (fun _=>true) [] Bc Bc ?_;simp;refine Da Br ?_;simp[An,Av u];refine Da Vy ?_;simp;refine Da S9 ?_;simp[Cf,Ah,Aq p];refine⟨fun b cs _ hb=>by simpa using E4 (L:=[_]) hb,?_⟩;refine Ca U0 ?_;simp;exact hQ (by simp[Ah,Aq p])
def Avj(ks:B6)(s:Sm)(t:Te)(hc:Dd s)(ht:Dg t)(hk:ks.length<=1000):
 ∃p:Te×Int,Kr Tryz.prog 36 [.sl .none (ks.map Ak),An s,Ah t] (Ah p.1) p.2/\(p.2=0->Ds 400 p.1/\wT p.1<=20000)/\(Cu s=true->ks.all Eu=true->Ds 400 t->wT t<=20000->p.2=0\/p.2=6):=by
 have Vy:=Bbx ks.length Aa;have Br:=Adk s ks.length ks.length hc Aa Aa Aa Aa;have hL:((List.range ks.length).map fun i:Nat=>Ch (i:Int)).reverse.length=ks.length:=Ab
 have hLv:((List.range ks.length).map fun i:Nat=>Ch (i:Int)).reverse.all Ar=true:=by
  rw[Pn];intro x hx;simp only[List.mem_reverse,qf,Ag9]at hx;obtain⟨i,hi,rfl⟩:=hx;exact Bsk Aa Aa
 generalize ((List.range ks.length).map fun i:Nat=>Ch (i:Int)).reverse=L at Vy hL hLv
 have hf:Cu s=true->(E0 s ks.length ks.length).2=0\/(E0 s ks.length ks.length).2=6:=fun hs=>by
  unfold E0 Jf;rw[Ac (by simp[hs])];split
  . exact .inr rfl
  exact .inl rfl
 have hg:(E0 s ks.length ks.length).2=0->Cu (E0 s ks.length ks.length).1=true:=by
  unfold E0;split
  . intro h;simp at h
  intro h;obtain⟨_,e2,e3⟩:=gw h;rw[e3]; exact e2
 generalize E0 s ks.length ks.length=q at Br hf hg;obtain⟨u,e⟩:=q;simp only at hf hg Br;by_cases he:e=0
 case neg=>exact⟨(Cj,e),⟨fun h=>absurd h he,fun _=>Bbq ks s t L Vy e (Br.2 he)⟩,fun h=>absurd h he,fun hs _ _ _=>hf hs⟩
 subst he;have hu:=hg rfl;have hA:Rq ks u L t:=⟨ib hu,ht,fun x hx=>by have:=Kn (List.all_eq_true.1 hLv x hx); omega,hk⟩;have S9:=wk hA;have hX:=fun h=>Aep hA h
 have hok:ks.all Eu=true->Ds 400 t->wT t<=20000->Ly ks u L t=true:=fun h1 h2 h3=>by
  unfold Ly;rw[hu,h1,(xl ht).2 ⟨h2,h3⟩,hLv]; simp[hL]
 obtain⟨p0,Xp⟩:∃p0,p0=Om ks u L t:=⟨_,rfl⟩;rw[<- Xp]at S9 hX;obtain⟨p,e⟩:=p0;by_cases he:e=0
 . subst he;refine⟨(p,0),⟨fun _=>Bbs ks s u t p L Vy (Br.1 rfl) S9.1,fun h=>absurd rfl h⟩,fun _=>⟨S9.2 rfl,?_⟩,fun _ _ _ _=>.inl rfl⟩;have:=(gm ks u L t hA);have e1:Om ks u L t=this.choose:=by rw[Om,Ob hA]
   have e2:=this.choose_spec.2.1;rw[<- e1,<-Xp]at e2;exact(e2 rfl).2
 exact⟨(p,e),⟨fun h=>absurd h he,fun _=>Bbr ks s u t p L Vy (Br.1 rfl) e he S9.1⟩,fun h=>absurd h he,fun _ h1 h2 h3=>(hX (hok h1 h2 h3)).1⟩
end
section
open Go.RowKit
attribute [local simp] Cb Cq
@[reducible] def V9(e:Int)(H':List HB):D6:=⟨fun v K=>e≠0/\v.strip=Ma e/\∃L,K=H'++L⟩
def Axk(he:e≠0)(H:Ai):V9 e H=K5 e H:=by
 unfold V9 K5;congr 1;funext v K;simp[he]
def Agv{n:FuncId}{args args0:Ao}{H0:Ai}{dst:Option Nat}{l:B8}{k:I7}{Q:Co}{t:Ao}(R9:e≠0)(h:Ft P n args0 [] e [])(ha:A0 0 args0=true)(he:Ce args=args0)(hh:∃L,H=H0++L): @CALL (V9 e H0) P (.fn (.func n) [] []) args dst l k Q t H:=by
 rw[Axk R9]; exact Ve h ha he hh
def Qm{V:Nat->Bool}{nq:Ck}{HV:Ai}{m:Nat}{n:FuncId}{args args0:Ao}{H0:Ai}(r:AV){dst:Option Nat}{l:B8}{k:I7}{Q:Co}{t:Ao}(R9:e≠0)(h:Ft P n args0 [] e [])(ha:A0 0 args0=true)(he:Ce args=args0)(hh:∀H,Ev V HV H->∃L,H=H0++L)
 (hn: @DR (V9 e H0) P V nq HV (m+1) l k Q (Cd t dst r) H): @Wk (V9 e H0) P V nq HV m (.fn (.func n) [] []) args dst l k Q t H:=by
 rw[Axk R9]at hn ⊢; exact Agy r h ha he hh hn
def Pm(P:Program)(f:FuncId)(args:List AV)(H:List HB)(v:AV)(e:Int):Prop:=N6 P f args H fun o K=>K=H/\((e=0/\o= .res v)\/(e≠0/\o= .pan (Ma e)))
def Pm.of{ac:AC}{n:Nat}{rs:List Gp}(hf:Nk P f ac n rs){args:Ao}{res:AV}(A8:Be H.length H=true)(h: @A9 (V9 e H) P ac (start args n) H (fun x t K=>e=0/\Gl rs res H x t K)):Pm P f args H res e:=by
 refine⟨hf.en,fun F g w vs hG hs hr=>?_⟩;obtain⟨fn,c,h1,h2,h3,h4,h5⟩:=hf.fn;refine calls_of_wp h1 h2 ?_;have hlen:=H5 hr
 have Ur:Tm F g w (start args n) {tmps:=vs.toArray++Array.replicate (fn.ntmps-vs.toArray.size) undef,defers:=[]}:=by
  show RL F g w _ _;simp only[start,Wi,Zr,Tu,h4,hlen];exact Ld hr (Wr Hk _)
 refine wp_mono (h c h3 F g w _ ⟨hs,Ur,rfl,hG⟩) ?_;rintro e' a' w' (⟨x,t',H2,F',g',rfl,⟨R9,hx,⟨v,hv,hle⟩,⟨L,rfl⟩,hsc',nl⟩,Cv,Xo⟩|⟨v,u,K,F',g',rfl,hv,⟨he,hb,L,rfl⟩,Cv,hd,Xo⟩)
 . obtain⟨u,hu,Uq⟩:=ko Cv h5 hv;obtain⟨g2,e1,e2,e3⟩:=St.forget Cv.1 Xo (Bm _) nl hs.beyond;have Hr:=Mo e1 res u hsc' (hle▸Ww v u Uq);rcases hx with rfl|rfl
   . exact⟨Cv.2.2.1,u,hu,.res res,H,F',g2,⟨rfl,.inl ⟨R9,rfl⟩⟩,e2,e3,u,rfl,Hr⟩
   exact⟨Cv.2.2.1,u,hu,.res res,H,F',g2,⟨rfl,.inl ⟨R9,rfl⟩⟩,e2,e3,u,rfl,Hr⟩
 obtain⟨g2,e1,e2,e3⟩:=St.forget Cv Xo (Bm _) A8 hs.beyond;exact⟨hd,.pan (Ma e),H,F',g2,⟨rfl,.inr ⟨he,rfl⟩⟩,e2,e3,u,rfl,Mo e1 (Ma e) u (Aa7 _ _) (hb▸Ww v u hv)⟩
def Pm.go(hm:P.follows .mixedOrders=true){ac:AC}{n:Nat}{rs:List Gp}(hf:Nk P f ac n rs){args:Ao}{res:AV}(A8:Be H.length H=true)
 (h:Bl args->∀Q:Co,(∀ x t K,e=0->Gl rs res H x t K->Q x t K)->@WP (V9 e H) P ac [] Q (start args n) H):Pm P f args H res e:=
 N6.fits hf.en fun Am=>Pm.of hf A8 (@A9.run (V9 e H) P hm _ _ _ _ fun Q hQ=>h Am Q fun x t K h1 h2=>hQ x t K ⟨h1,h2⟩)
def Pm.ok{args:Ao}{v:AV}(h:Pm P f args H v 0):C7 P f args H v H:=
 ⟨h.1,fun F g w vs hG hs hr=>(h.2 F g w vs hG hs hr).mono fun e w' hh=>by
  obtain⟨o,K,F',g',⟨rfl,⟨_,rfl⟩|⟨h,_⟩⟩,Cv,hx,hh⟩:=hh
  . obtain⟨u,rfl,hv⟩:=hh;exact⟨u,F',g',rfl,hv,Cv,hx⟩
  exact absurd rfl h⟩
def Pm.die{args:Ao}{v:AV}(he:e≠0)(h:Pm P f args H v e):Ft P f args H e H:=
 ⟨h.1,fun F g w vs hG hs hr=>(h.2 F g w vs hG hs hr).mono fun e w' hh=>by
  obtain⟨o,K,F',g',⟨rfl,⟨h,_⟩|⟨_,rfl⟩⟩,Cv,hx,hh⟩:=hh
  . exact absurd h he
  exact⟨_,_,F',g',⟨rfl,rfl⟩,Cv,hx,hh⟩⟩
def E5(f a:El)(l:List Cn)(c:Te):List HB:=[.var (Es f),.var (Es a),.var [.sl .none (l.map Ag)],.var (Bi c),.var Cx]
def Aau(n:Nat)(f a:El)(l:Ax)(c:Te):Be n (E5 f a l c++cL)=true:=by
 rw[Nh,Boq];simp[E5,Be,A0,AV.inScope,Cx]
def Qq(f a:El)(l:Ax)(c:Te):∀b,b<(E5 f a l c++cL).length->∃cs,(E5 f a l c++cL)[b]? =some (.var cs):=by
 intro b hb;have hb:b<7:=hb
 match b,hb with
 |0,_=>exact⟨_,rfl⟩
 |1,_=>exact⟨_,rfl⟩
 |2,_=>exact⟨_,rfl⟩
 |3,_=>exact⟨_,rfl⟩
 |4,_=>exact⟨_,rfl⟩
 |5,_=>exact⟨_,rfl⟩
 |6,_=>exact⟨_,rfl⟩
def Ayv{H0:Ai}(h:H.take H0.length=H0):∃L,H=H0++L:=⟨H.drop H0.length,by
 have:=(Ahc H0.length H).symm
 rw[h]at this;exact this⟩
def Rf{H0 HV:Ai}(hv:∀b,b<H0.length->∃cs:Ao,H0[b]? =some (HB.var cs))(h:HV.take H0.length=H0)(H:Ai)(hk:Ev (fun _=>true) HV H):∃L,H=H0++L:=
 Bas hv (fun b cs hb=>by
  have Af:=(List.getElem?_eq_some_iff.1 hb).1
  rw[<- h,yi,Ae Af]at hb;exact hb) hk
def Vl:List AV:=.sl .none [] :: .sl .none [] :: .bool false::(L8++Eh)
def rn:List AV:=[.int .i64 9223372036854775808,.int .i64 0,.str [],.int .i64 0,.int .i64 0,.str [],.sl .none [],.sl .none [],.sl .none [],.sl .none [],.sl .none [],.sl .none [],.sl .none [],.sl .none [L8,L8]]
def wa(ks:List Kd)(W:AV)(p:Bool)(s:Sm)(T:List AV):List AV:=.sl .none (ks.map Ak)::W :: .bool p::(Bx s++T)
noncomputable def Ms(w:List Cn):List Cn->List Cn×Int
 | []=>([],0)
 |c::l=>if(Py c w).2=0 then((Py c w).1::(Ms w l).1,(Ms w l).2)else([],(Py c w).2)
def Np{l:Ao}(i:Nat)(h:l[i]?.map ga=some true):l.any ga=true:=by
 obtain⟨x,hx,hd⟩:=Option.map_eq_some_iff.1 h;exact List.any_eq_true.2 ⟨x,Sr hx,hd⟩
end
section
open Go.RowKit
attribute [-simp] Int.not_lt Int.not_le
attribute [local simp] Cb Cq
set_option maxHeartbeats 8000000 in
def Bbc(f a:El)(l:Ax)(c:Te)(hop:f.s.op=6)(Kc:∀x∈l,Al x<=1000000000000)(Dw:l.length<=1000)
 (K:B6) (hK:Hc 27 [.sl .none (Uy [f.ks,a.ks,f.s.more])] (.sl .none (K.map Ak)))
 (sh:Sm) (e1:Int) (Br:Kr Tryz.prog 29 [An f.s,.int .i64 (a.ks.length:Int),.int .i64 0] (An sh) e1) (x y:Sm) (H9:e1=0->sh.l=[x,y])
 (r:Sm) (e2:Int) (I6:Kr Tryz.prog 28 [An y,.sl .none (f.s.more.map Ak),.sl .none (l.map Ag)] (An r) e2)
 (Y4:f.pure=true) (hap:a.pure=true) (De:f.s.n=1) (W:Ax) (hW:Hc 30 [.sl .none (ju [f.w,a.w])] (.sl .none (W.map Ag))) (ip:∀x∈W,Al x<=1000000000000)
 (cs:Ax) (e3:Int) (B7:Ms W l=(cs,e3)) (u:Te) (e4:Int) (Jh:Kr Tryz.prog 34 [Ah c,.sl .none (W.map Ag)] (Ah u) e4)
 (E:Int) (hE:E=if e1≠0 then e1 else if e2≠0 then e2 else if e3≠0 then e3 else e4):
 Pm Tryz.prog 26 [.ptr 0 0,.ptr 1 0,.ptr 2 0,.ptr 3 0] (E5 f a l c++cL) (As ⟨K,W,true,r,C5 5 0 [cs.foldl Gi f.t,C5 5 0 [u,a.t]]⟩) E:=by
 have Ke:=Xu 5 0 [u,a.t];obtain⟨N1,hN1⟩:∃N1,N1=C5 5 0 [u,a.t]:=⟨_,rfl⟩;rw[<- hN1]at Ke ⊢;have happ:=Avc f.t cs N1;obtain⟨N2,hN2⟩:∃N2,N2=C5 5 0 [cs.foldl Gi f.t,N1]:=⟨_,rfl⟩;rw[<- hN2]at happ ⊢;clear hN1 hN2;refine Pm.go mixed Awr (Aau _ f a l c) fun Am Q hQ=>?_;letI:D6:=V9 E (E5 f a l c++cL);clear Am;simp[E5,cL,Cx,A7 f,A7 a,Aq c,Y4,hap,De];refine Wd ?_;simp;refine Ca hK ?_ (ha:=by simp[Uy]) (he:=by simp[Uy]);simp;refine Or.elim (Rn (e1=0)) (fun h1=>?_) (fun h1=>?_)
 case refine_2=>
  have P3:E=e1:=by rw[hE,Ae h1]
  have hd:=Br.2 h1;rw[<- P3]at hd h1;refine Su (fun _=>true) [] 46 mixed Bc ?_;simp;refine Qm (.agg rn) h1 hd Ab (by simp[An,Av f.s,hop,De]) (Rf (Qq f a l c) (by simp[E5,cL,Cx,A7 f,A7 a,Aq c,hop,Y4,hap,De])) ?_;simp[rn,L8];refine J5 (fun H=>Mw n8 _ (Np 0 Bc) (.agg L8) H) ?_;simp[L8];exact Rx _
 have H9:=H9 h1;have Br:=Br.1 h1;rw[Ac (by simp[h1])]at hE;refine Or.elim (Rn (e2=0)) (fun h2=>?_) (fun h2=>?_)
 case refine_2=>
  have P3:E=e2:=by rw[hE,Ae h2]
  have hd:=I6.2 h2;rw[<- P3]at hd h2;refine Su (fun _=>true) [] 46 mixed Bc ?_;simp;refine Da Br ?_ (he:=by simp[An,Av f.s,hop,De]);simp[An,Av sh,H9,Av y];refine Qm (.agg L8) h2 hd Ab (by simp[An,Av y]) (Rf (Qq f a l c) (by simp[E5,cL,Cx,A7 f,A7 a,Aq c,hop,Y4,hap,De])) ?_;simp[L8];exact Rx _
 rw[Ac (by simp[h2])]at hE;have I6:=I6.1 h2;refine Wd ?_;simp;refine Da Br ?_ (he:=by simp[An,Av f.s,hop,De]);simp[An,Av sh,H9,Av y];refine Da I6 ?_;have hz2:=h2;clear Br I6 H9 h1 h2;simp[An,Av r];refine Ca hW ?_ (ha:=by simp[ju]) (he:=by simp[ju]);clear hW hK;simp;refine WL [] (fun n f h G=>∃(k:Nat) (tok:Dh) (P:Ax),k+n=l.length/\P.length=k/\f 70= .int .i64 k/\f 9= .sl tok (P.map Ag)/\owns 9 G tok (P.map Ag) 6/\(Ms W (l.drop k)).2=e3/\(e3=0->P++(Ms W (l.drop k)).1=cs)) (l.length) Ab ⟨0,.nilT,[],Ab,rfl,rfl,rfl,Fp _ _ _,by simp[B7],fun _=>by simp[B7]⟩ ?_;rintro n fs h G ⟨k,tok,P,hk,hP,ik,h9,Bt,Oj,Vs⟩ Q2 Aj;simp[ik,h9];by_cases Af:k<l.length
 . have Cc:(k:Int)<(l.length:Int):=by omega
   have h0:(0:Int)<=(k:Int):=Aa;rw[Ct Af,Ms]at Oj Vs;have hcon:=(Ave l[k] W (Kc _ (Cy _)) ip).1;obtain⟨q,hq⟩:∃q,q=Py l[k] W:=⟨_,rfl⟩;rw[<- hq]at hcon Oj Vs;clear hq;obtain⟨y,e⟩:=q;simp only at hcon Oj Vs;simp[Af,h0,Ap l[k]];refine Or.elim (Rn (e=0)) (fun h1=>?_) (fun h1=>?_)
   case refine_2=>
    rw[Ac h1]at Oj;simp only at Oj;have P3:E=e:=by rw[hE,Ae (by rw[<- Oj]; exact h1),Oj]
    have hd:=hcon.2 h1;rw[<- P3]at hd h1;refine Agv h1 hd Ab (by simp[Ad,Ap l[k]]) (Ayv (by simp[E5,cL,Cx,A7 f,A7 a,Aq c,hop,Y4,hap,De]))
   rw[Ae h1]at Oj Vs;simp only at Oj Vs;refine Ca (hcon.1 h1) ?_;simp[Ad,Ap y,Dx];refine Aad [_,_,_,_,_,_,_,_,_] (G++[_]) (by simp only[Gb,Gx]; rfl) (by simpa using Lv Bt) (by simp[A1]; omega) (Ea _ _ Iq) Ab fun tok' G' Bv Ei=>?_;simp[Au (n:=(k:Int)+1) Aa Aa];refine Aj (Ln h ?_);exact⟨k+1,tok',P++[y],Aa,by simp[hP],Ab,by simp[Ap y],by simpa[Ap y]using Bv,Oj,fun h=>by rw[<- Vs h]; simp⟩
 have Cc:¬(k:Int)<(l.length:Int):=by omega
 rw[Cm Aa,Ms]at Oj Vs;simp only at Oj Vs;obtain rfl:P=cs:=by have:=Vs Oj.symm;simpa using this
 rw[<- Oj,Ac Ab]at hE;clear Vs Oj B7;simp[Af];refine Aj (Lx ?_);clear Aj ik h9 Bt;simp;refine Or.elim (Rn (e4=0)) (fun h1=>?_) (fun h1=>?_)
 case refine_2=>
  have hd:=Jh.2 h1;rw[<- hE]at hd h1;refine Su (fun _=>true) [] 93 mixed Bc ?_;simp;refine Qm (.agg Eh) h1 hd Ab (by simp[Ah,Aq c]) (Rf (Qq f a l c) (by simp[E5,cL,Cx,A7 f,A7 a,Aq c,hop,Y4,hap,De])) ?_;simp[Eh,Dx];refine J5 (fun H=>Mw Ad0 _ (Np 2 Bc) (.agg Eh) H) ?_;simp[Eh];refine J5 (fun H=>Mw Adx _ (Np 2 Bc) (.agg Eh) H) ?_;simp[Eh];exact Rx _
 rw[h1]at hE;refine Wd ?_;simp;refine Da (Jh.1 h1) ?_;simp[Ah,Aq u,Dx];refine Da Ke ?_ (he:=by simp[Aq u,Aq a.t]);simp[Ah,Aq N1];refine Da happ ?_;simp[Ah,Aq N2];refine hQ _ _ _ hE ?_;simp[E5,cL,Cx,As,A7,Aq,Av,Y4,hap,De,hop]
def ot{n:FuncId}{args:Ao}{v:AV}{E:Int}(h:Kr P n args v e)(he:e=0\/e=6)(hE:E=6)(h0:e≠0):Ft P n args [] E []:=by
 have:E=e:=by rw[hE]; exact(he.resolve_left h0).symm
 rw[this]; exact h.2 h0
def rr(f a:El)(l:List Cn)(c:Te)(K:List Kd)(r:Sm)(b:Te):List HB:=E5 f a l c++cL++[.var Cx,.var (wa K (.sl .nilT []) false r Hy),.var (Bi b)]
set_option maxHeartbeats 16000000 in
def Bbb(f a:El)(l:Ax)(c:Te)(hop:f.s.op=6)(Kc:∀x∈l,Al x<=1000000000000)(Dw:l.length<=1000)
 (K:B6) (hK:Hc 27 [.sl .none (Uy [f.ks,a.ks,f.s.more])] (.sl .none (K.map Ak)))
 (sh:Sm) (e1:Int) (Br:Kr Tryz.prog 29 [An f.s,.int .i64 (a.ks.length:Int),.int .i64 0] (An sh) e1) (x y:Sm) (H9:e1=0->sh.l=[x,y])
 (r:Sm) (e2:Int) (I6:Kr Tryz.prog 28 [An y,.sl .none (f.s.more.map Ak),.sl .none (l.map Ag)] (An r) e2)
 (be:f.pure=false\/(f.pure=true/\a.pure=false)\/(f.pure=true/\a.pure=true/\¬f.s.n=1))
 (v1 v2:Int) (H8:(if(1:Int)<(f.ks.length:Int)then(f.ks.length:Int)else 1)=v1) (Jl:(if(1:Int)<(a.ks.length:Int)then(a.ks.length:Int)else 1)=v2) (hv3:IntKind.i64.wrap (v1+v2)=v1+v2)
 (cm:Te) (e5:Int) (Y9:Kr Tryz.prog 35 [Ah c,.int .i64 0,.int .i64 (v1+v2)] (Ah cm) e5)
 (V Z N B:Te) (hV:Hc 33 [.int .i64 1,.int .i64 v2,.sl .none (([]:Na).map Bi)] (Ah V)) (hZ:Hc 33 [.int .i64 1,.int .i64 0,.sl .none (([]:Na).map Bi)] (Ah Z))
 (hN:Hc 33 [.int .i64 5,.int .i64 0,.sl .none ([cm,Z].map Bi)] (Ah N)) (hB:Hc 32 [Ah V,.sl .none (l.map Ag),Ah N] (Ah B))
 (b2:Te) (e6:Int) (Mc:e2=0->e5=0->(f.s.n=1/\Kr Tryz.prog 36 [.sl .none (K.map Ak),An r,Ah B] (Ah b2) e6)\/(¬ f.s.n=1/\∃p0,Kr Tryz.prog 36 [.sl .none (K.map Ak),An r,Ah Z] (Ah p0) e6/\(e6=0->Hc 37 [.int .i64 (f.s.more.length:Int),Ah B,Ah p0] (Ah b2))))
 (x1 x2:El) (m2 o1 o2:Te) (e7 e8 e9:Int) (S5:Kr Tryz.prog 38 [As f] (As x1) e7) (Q5:Kr Tryz.prog 38 [As a] (As x2) e8) (bb:e8=0->Kr Tryz.prog 35 [Ah x2.t,.int .i64 (f.ks.length:Int),.int .i64 v1] (Ah m2) e9)
 (h7e:e7=0\/e7=6) (h8e:e8=0\/e8=6) (il:e9=0\/e9=6)
 (ni:e8=0->e9=0->e6=0->Hc 37 [.int .i64 (a.ks.length:Int),Ah m2,Ah b2] (Ah o1)) (uf:e7=0->e8=0->e9=0->e6=0->Hc 37 [.int .i64 (f.ks.length:Int),Ah x1.t,Ah o1] (Ah o2))
 (E:Int) (hE:E=if e1≠0 then e1 else if e2≠0 then e2 else if e5≠0 then e5 else if e6≠0 then e6 else if e7≠0 then e7 else if e8≠0 then e8 else e9):
 Pm Tryz.prog 26 [.ptr 0 0,.ptr 1 0,.ptr 2 0,.ptr 3 0] (E5 f a l c++cL) (As ⟨K,[],false,r,o2⟩) E:=by
 refine Pm.go mixed Awr (Aau _ f a l c) fun Am Q hQ=>?_;letI:D6:=V9 E (E5 f a l c++cL);clear Am;simp[E5,cL,Cx,A7 f,A7 a,Aq c];refine Wd ?_;simp;refine Ca hK ?_ (ha:=by simp[Uy]) (he:=by simp[Uy]);simp;refine Or.elim (Rn (e1=0)) (fun h1=>?_) (fun h1=>?_)
 case refine_2=>
  have P3:E=e1:=by rw[hE,Ae h1]
  have hd:=Br.2 h1;rw[<- P3]at hd h1;refine Su (fun _=>true) [] 46 mixed Bc ?_;simp;refine Qm (.agg rn) h1 hd Ab (by simp[An,Av f.s,hop]) (Rf (Qq f a l c) (by simp[E5,cL,Cx,A7 f,A7 a,Aq c,hop])) ?_;simp[rn,L8];refine J5 (fun H=>Mw n8 _ (Np 0 Bc) (.agg L8) H) ?_;simp[L8];exact Rx _
 have H9:=H9 h1;have Br:=Br.1 h1;rw[Ac (by simp[h1])]at hE;refine Or.elim (Rn (e2=0)) (fun h2=>?_) (fun h2=>?_)
 case refine_2=>
  have P3:E=e2:=by rw[hE,Ae h2]
  have hd:=I6.2 h2;rw[<- P3]at hd h2;refine Su (fun _=>true) [] 46 mixed Bc ?_;simp;refine Da Br ?_ (he:=by simp[An,Av f.s,hop]);simp[An,Av sh,H9,Av y];refine Qm (.agg L8) h2 hd Ab (by simp[An,Av y]) (Rf (Qq f a l c) (by simp[E5,cL,Cx,A7 f,A7 a,Aq c,hop])) ?_;simp[L8];exact Rx _
 rw[Ac (by simp[h2])]at hE;have I6:=I6.1 h2;refine Wd ?_;simp;refine Da Br ?_ (he:=by simp[An,Av f.s,hop]);simp[An,Av sh,H9,Av y];refine Da I6 ?_;have hz2:=h2;clear Br I6 H9 h1 h2;clear hK;simp[-Az,An,Av r];refine Gc (fun _=>True) (fun Q' hn hr=>?_) (fun fs hI=>?_)
 . clear hQ;refine Or.elim be (fun h1=>?_) (fun h1=>Or.elim h1 (fun h2=>?_) (fun h2=>?_))
   . rw[h1]at hn;simp[h1];refine hn _ Ab trivial
   . obtain⟨h2,h3⟩:=h2;rw[h2,h3]at hn;simp[h2,h3];refine hn _ Ab trivial
   obtain⟨h2,h3,h4⟩:=h2;rw[h2,h3]at hn;simp[h2,h3,h4];refine hn _ Ab trivial
 simp[-Az];rw[Az];simp[-Az,cn,Xw,H8,Jl];rw[Az];refine Or.elim (Rn (e5=0)) (fun h5=>?_) (fun h5=>?_)
 case refine_2=>
  have P3:E=e5:=by rw[hE,Ae h5]
  have hd:=Y9.2 h5;rw[<- P3]at hd h5;refine Su (fun _=>true) [] 111 mixed Bc ?_;simp;refine Da hV ?_;simp[Ah,Aq V,hv3];refine Qm (.agg Eh) h5 hd Ab (by simp[Ah,Aq c]) (Rf (Qq f a l c) (by simp[E5,cL,Cx,A7 f,A7 a,Aq c,hop])) ?_;simp[Eh];refine Da hZ ?_;simp[Ah,Aq Z,Dx];refine J5 (fun H=>Mw Ad0 _ (Np 2 Bc) (.agg Eh) H) ?_;simp[Eh];refine J5 (fun H=>Mw Adx _ (Np 2 Bc) (.agg Eh) H) ?_;simp[Eh];exact Rx _
 rw[Ac (by simp[h5])]at hE;have Y9:=Y9.1 h5;have Mc:=Mc hz2 h5;refine Wd ?_;simp[-Az];refine Da hV ?_;simp[-Az,Ah,Aq V,hv3];refine Da Y9 ?_;simp[-Az,Ah,Aq cm];refine Da hZ ?_;simp[-Az,Ah,Aq Z,Dx];refine Da hN ?_ (he:=by simp[Aq cm,Aq Z]);simp[-Az,Ah,Aq N];refine Da hB ?_;clear Y9 hV hN h5;simp[-Az,Ah,Aq B];refine Or.elim (Rn (e6=0)) (fun h6=>?_) (fun h6=>?_)
 case refine_2=>
  have P3:E=e6:=by rw[hE,Ae h6]
  have Bg:E≠0:=by rw[P3]; exact h6
  refine Or.elim Mc (fun h=>?_) (fun h=>?_)
  . obtain⟨h1,h⟩:=h;have hd:=h.2 h6;rw[<- P3]at hd;simp[h1];refine Agv Bg hd Ab (by simp[An,Av r,Ah,Aq B]) (Ayv (by simp[E5,cL,Cx,A7 f,A7 a,Aq c,hop,h1]))
  obtain⟨h1,p0,h,_⟩:=h;have hd:=h.2 h6;rw[<- P3]at hd;simp[h1];refine Su (fun _=>true) [] 130 mixed Bc ?_;simp;refine Da hZ ?_;simp[Ah,Aq Z];refine Qm (.agg Eh) Bg hd Ab (by simp[An,Av r,Ah,Aq Z]) (Rf (Qq f a l c) (by simp[E5,cL,Cx,A7 f,A7 a,Aq c,hop])) ?_;simp[Eh];refine J5 (fun H=>Mw Tf _ (Np 2 Bc) (.agg Eh) H) ?_;simp[Eh];exact Rx _
 rw[Ac (by simp[h6])]at hE;refine Aan (fun _ H=>H=rr f a l c K r b2) (fun Q' hn hr=>?_) (fun fs H hI=>?_)
 . clear hQ;refine Or.elim Mc (fun h=>?_) (fun h=>?_)
   . obtain⟨h1,h⟩:=h;rw[h1]at hn;simp[h1];refine Ca (h.1 h6) ?_;simp[Ah,Aq b2];refine hn _ _ Ab ?_;simp[rr,E5,cL,Cx,Hy,wa,Av r,Aq b2,A7 f,A7 a,Aq c,hop,h1]
   obtain⟨h1,p0,h,ho⟩:=h;simp[h1];refine Wd ?_;simp;refine Da hZ ?_;simp[Ah,Aq Z];refine Da (h.1 h6) ?_;simp[Ah,Aq p0];refine Da (ho h6) ?_;simp[Ah,Aq b2];refine hn _ _ Ab ?_;simp[rr,E5,cL,Cx,Hy,wa,Av r,Aq b2,A7 f,A7 a,Aq c,hop]
 rw[hI];clear hI Mc hZ hB;simp[rr,E5,cL,Cx,Hy,wa,Av r,Aq b2,A7 f,A7 a,Aq c,hop];refine Or.elim (Rn (e7=0)) (fun h7=>?_) (fun h7=>?_)
 case refine_2=>
  have Bg:E≠0:=by rw[hE,Ae h7]; exact h7
  have ak:E=6:=by rw[hE,Ae h7]; exact h7e.resolve_left h7
  have hd1:=fun h=>ot S5 h7e ak h;have Dy:=fun h=>ot Q5 h8e ak h;refine Or.elim (Rn (e8=0)) (fun h8=>?_) (fun h8=>?_)
  case refine_2=>
   refine Su (fun _=>true) [] 134 mixed Bc ?_;simp;refine Qm (.agg Vl) Bg (hd1 h7) Ab (by simp[As,A7 f,hop]) (Rf (Qq f a l c) (by simp[E5,cL,Cx,A7 f,A7 a,Aq c,hop])) ?_;simp[Vl,L8,Eh];refine Qm (.agg Vl) Bg (Dy h8) Ab (by simp[As,A7 a]) (Rf (Qq f a l c) (by simp[E5,cL,Cx,A7 f,A7 a,Aq c,hop])) ?_;simp[Vl,L8,Eh];refine J5 (fun H=>Mw vr _ (Np 0 Bc) (.agg Eh) H) ?_;simp[Eh];refine J5 (fun H=>Mw Tf _ (Np 1 Bc) (.agg Eh) H) ?_;simp[Eh];refine J5 (fun H=>Mw Tf _ (Np 2 Bc) (.agg Eh) H) ?_;simp[Eh];exact Rx _
  refine Or.elim (Rn (e9=0)) (fun h9=>?_) (fun h9=>?_)
  case refine_2=>
   refine Su (fun _=>true) [] 134 mixed Bc ?_;simp;refine Qm (.agg Vl) Bg (hd1 h7) Ab (by simp[As,A7 f,hop]) (Rf (Qq f a l c) (by simp[E5,cL,Cx,A7 f,A7 a,Aq c,hop])) ?_;simp[Vl,L8,Eh];refine Da (Q5.1 h8) ?_;simp[As,A7 x2];refine Qm (.agg Eh) Bg (ot (bb h8) il ak h9) Ab (by simp[Ah,Aq x2.t]) (Rf (Qq f a l c) (by simp[E5,cL,Cx,A7 f,A7 a,Aq c,hop])) ?_;simp[Eh];refine J5 (fun H=>Mw Tf _ (Np 1 Bc) (.agg Eh) H) ?_;simp[Eh];refine J5 (fun H=>Mw Tf _ (Np 2 Bc) (.agg Eh) H) ?_;simp[Eh];exact Rx _
  refine Su (fun _=>true) [] 134 mixed Bc ?_;simp;refine Qm (.agg Vl) Bg (hd1 h7) Ab (by simp[As,A7 f,hop]) (Rf (Qq f a l c) (by simp[E5,cL,Cx,A7 f,A7 a,Aq c,hop])) ?_;simp[Vl,L8,Eh];refine Da (Q5.1 h8) ?_;simp[As,A7 x2];refine Da ((bb h8).1 h9) ?_;simp[Ah,Aq m2];refine Da (ni h8 h9 h6) ?_;simp[Ah,Aq o1];refine J5 (fun H=>Mw Tf _ (Np 1 Bc) (.agg Eh) H) ?_;simp[Eh];exact Rx _
 rw[Ac (by simp[h7])]at hE;refine Or.elim (Rn (e8=0)) (fun h8=>?_) (fun h8=>?_)
 case refine_2=>
  have Bg:E≠0:=by rw[hE,Ae h8]; exact h8
  have ak:E=6:=by rw[hE,Ae h8]; exact h8e.resolve_left h8
  have Dy:=fun h=>ot Q5 h8e ak h;refine Su (fun _=>true) [] 138 mixed Bc ?_;simp;refine Da (S5.1 h7) ?_ (he:=by simp[As,A7 f,hop]);simp[As,A7 x1];refine Qm (.agg Vl) Bg (Dy h8) Ab (by simp[As,A7 a]) (Rf (Qq f a l c) (by simp[E5,cL,Cx,A7 f,A7 a,Aq c,hop])) ?_;simp[Vl,L8,Eh];refine J5 (fun H=>Mw vr _ (Np 0 Bc) (.agg Eh) H) ?_;simp[Eh];refine J5 (fun H=>Mw Tf _ (Np 1 Bc) (.agg Eh) H) ?_;simp[Eh];refine J5 (fun H=>Mw Tf _ (Np 2 Bc) (.agg Eh) H) ?_;simp[Eh];exact Rx _
 rw[Ac (by simp[h8])]at hE;refine Or.elim (Rn (e9=0)) (fun h9=>?_) (fun h9=>?_)
 case refine_2=>
  have Bg:E≠0:=by rw[hE]; exact h9
  have ak:E=6:=by rw[hE]; exact il.resolve_left h9
  refine Su (fun _=>true) [] 141 mixed Bc ?_;simp;refine Da (S5.1 h7) ?_ (he:=by simp[As,A7 f,hop]);simp[As,A7 x1];refine Da (Q5.1 h8) ?_;simp[As,A7 x2];refine Qm (.agg Eh) Bg (ot (bb h8) il ak h9) Ab (by simp[Ah,Aq x2.t]) (Rf (Qq f a l c) (by simp[E5,cL,Cx,A7 f,A7 a,Aq c,hop])) ?_;simp[Eh];refine J5 (fun H=>Mw Tf _ (Np 1 Bc) (.agg Eh) H) ?_;simp[Eh];refine J5 (fun H=>Mw Tf _ (Np 2 Bc) (.agg Eh) H) ?_;simp[Eh];exact Rx _
 rw[h9]at hE;refine Wd ?_;simp;refine Da (S5.1 h7) ?_ (he:=by simp[As,A7 f,hop]);simp[As,A7 x1];refine Da (Q5.1 h8) ?_;simp[As,A7 x2];refine Da ((bb h8).1 h9) ?_;simp[Ah,Aq m2];refine Da (ni h8 h9 h6) ?_;simp[Ah,Aq o1];refine Da (uf h7 h8 h9 h6) ?_;simp[Ah,Aq o2];refine hQ _ _ _ hE ?_;simp[E5,cL,Cx,As,A7,Aq,Av,hop]
def Bbe(f a:El)(l:Ax)(c:Te)(hf:Hc 22 [As f] (.bool false)):Hc 6 [As f,As a,.sl .none (l.map Ag),Ah c] (Cr (D7,1)):=by
 refine Hg cy fun Q hQ=>?_;simp[As,A7 f,A7 a,Ah,Aq c];refine Ca hf ?_;simp;exact hQ (by simp[Cr,As,Hm,Cx])
def Bbf(f a:El)(l:Ax)(c:Te)(hf:Hc 22 [As f] (.bool true))(ha:Hc 22 [As a] (.bool false)):Hc 6 [As f,As a,.sl .none (l.map Ag),Ah c] (Cr (D7,1)):=by
 refine Hg cy fun Q hQ=>?_;simp[As,A7 f,A7 a,Ah,Aq c];refine Ca hf ?_;simp;refine Ca ha ?_;simp;exact hQ (by simp[Cr,As,Hm,Cx])
def Bbg(f a:El)(l:Ax)(c:Te)(hf:Hc 22 [As f] (.bool true))(ha:Hc 22 [As a] (.bool true))(hl:Hc 23 [.sl .none (l.map Ag)] (.bool false)):Hc 6 [As f,As a,.sl .none (l.map Ag),Ah c] (Cr (D7,1)):=by
 refine Hg cy fun Q hQ=>?_;simp[As,A7 f,A7 a,Ah,Aq c];refine Ca hf ?_;simp;refine Ca ha ?_;simp;refine Ca hl ?_;simp;exact hQ (by simp[Cr,As,Hm,Cx])
def Bbh(f a:El)(l:Ax)(c:Te)(hf:Hc 22 [As f] (.bool true))(ha:Hc 22 [As a] (.bool true))(hl:Hc 23 [.sl .none (l.map Ag)] (.bool true))(hc:Hc 24 [Ah c] (.bool false)):Hc 6 [As f,As a,.sl .none (l.map Ag),Ah c] (Cr (D7,1)):=by
 refine Hg cy fun Q hQ=>?_;simp[As,A7 f,A7 a,Ah,Aq c];refine Ca hf ?_;simp;refine Ca ha ?_;simp;refine Ca hl ?_;simp;refine Ca hc ?_;simp;exact hQ (by simp[Cr,As,Hm,Cx])
def Bbi(f a:El)(l:Ax)(c:Te)(hf:Hc 22 [As f] (.bool true))(ha:Hc 22 [As a] (.bool true))(hl:Hc 23 [.sl .none (l.map Ag)] (.bool true))(hc:Hc 24 [Ah c] (.bool true))(hop:¬f.s.op=6):Hc 6 [As f,As a,.sl .none (l.map Ag),Ah c] (Cr (D7,12)):=by
 refine Hg cy fun Q hQ=>?_;simp[As,A7 f,A7 a,Ah,Aq c];refine Ca hf ?_;simp;refine Ca ha ?_;simp;refine Ca hl ?_;simp;refine Ca hc ?_;simp[hop];exact hQ (by simp[Cr,As,Hm,Cx])
def Bbj(f a:El)(l:Ax)(c:Te)(hf:Hc 22 [As f] (.bool true))(ha:Hc 22 [As a] (.bool true))(hl:Hc 23 [.sl .none (l.map Ag)] (.bool true))(hc:Hc 24 [Ah c] (.bool true))(hop:f.s.op=6)(hlen:¬l.length=f.s.ks.length):Hc 6 [As f,As a,.sl .none (l.map Ag),Ah c] (Cr (D7,1)):=by
 have Vv:¬(l.length:Int)=(f.s.ks.length:Int):=Aa;refine Hg cy fun Q hQ=>?_;simp[As,A7 f,A7 a,Ah,Aq c];refine Ca hf ?_;simp;refine Ca ha ?_;simp;refine Ca hl ?_;simp;refine Ca hc ?_;simp[hop,Vv];exact hQ (by simp[Cr,As,Hm,Cx])
def Bbk(f a:El)(l:Ax)(c:Te)(hf:Hc 22 [As f] (.bool true))(ha:Hc 22 [As a] (.bool true))(hl:Hc 23 [.sl .none (l.map Ag)] (.bool true))(hc:Hc 24 [Ah c] (.bool true))(hop:f.s.op=6)(hlen:l.length=f.s.ks.length)(q:El×Int)
 (Uh:HP 25 [.fn (.func 26) [] [.ptr 0 0,.ptr 1 0,.ptr 2 0,.ptr 3 0]] (E5 f a l c) (Cr q) (E5 f a l c)):Hc 6 [As f,As a,.sl .none (l.map Ag),Ah c] (Cr q):=by
 have Vv:(l.length:Int)=(f.s.ks.length:Int):=Aa;obtain⟨x,e⟩:=q;refine Hg cy fun Q hQ=>?_;simp[As,A7 f,A7 a,Ah,Aq c];refine Ca hf ?_;simp;refine Ca ha ?_;simp;refine Ca hl ?_;simp;refine Ca hc ?_;simp[hop,hlen];refine C1 (by simpa[E5,Cx,A7 f,A7 a,Aq c,hop]using Uh) ?_;simp[Cr,As];exact hQ (by simp[Cr,As])
end
section
open Go.RowKit
attribute [local simp] Cb Cq
def Bch{n:Int}(h0:0<=n)(h1:n<=20000):Ew (C5 1 n [])=true:=by
 have:Ew (C5 1 n [])=((!(false||(false||(!(decide (0<=n)&&decide (n<=20000))||(false||(false||false))))))&&(true&&(true&&true))):=Bc;rw[this]; simp[h0,h1]
def Bcg(x y:Te):Ew (C5 5 0 [x,y])=true:=Bc
def Bci(t:Te){c:Cn}(h:Ar c=true):Ew (Gi t c)=true:=by
 have:Ew (Gi t c)=Ar c:=by
  have:Ew (Gi t c)=(true&&(true&&(Ar c&&true))):=Bc;rw[this]; simp
 rw[this]; exact h
def kz:∀(h h':Nat) (t:Te),Ds h t->h<=h'->Ds h' t
 |0,_,_,h,_=>h.elim
 |h+1,0,_,_,hh=>Aa
 |h+1,h'+1,t,ht,hh=>⟨ht.1,fun x hx=>kz h h' x (ht.2 x hx) Aa⟩
def A1i{h:Nat}{x y:Te}(hx:Ds h x)(hy:Ds h y):Ds (h+1) (C5 5 0 [x,y]):=⟨Bcg x y,fun z hz=>by
 have hz:z=x\/z=y:=by simpa[C5,Te.l]using hz
 rcases hz with rfl|rfl<;>assumption⟩
def A1j{n:Int}(h0:0<=n)(h1:n<=20000):Ds 1 (C5 1 n []):=⟨Bch h0 h1,fun z hz=>by simp[C5,Te.l]at hz⟩
def Bql{h:Nat}{t:Te}(ht:Ds h t){c:Cn}(hc:Ar c=true):Ds (h+1) (Gi t c):=⟨Bci t hc,fun z hz=>by
 have hz:z=t:=by simpa[Gi,Te.l]using hz
 rw[hz]; exact ht⟩
def A2p(x y:Te):wT (C5 5 0 [x,y])=1+(wT x+wT y):=by
 rw[ph];have e1:Lt (C5 5 0 [x,y])=1:=Bc;have e2:(C5 5 0 [x,y]).l=[x,y]:=rfl;rw[e1,e2,Hi,Hi,Hi]; omega
def Agk(n:Int):wT (C5 1 n [])=1:=Bc
def Bsl(t:Te)(c:Cn):wT (Gi t c)=1+Al c+wT t:=by
 rw[ph];have e1:Lt (Gi t c)=1+(Al c:Int)+0:=Bc;have e2:(Gi t c).l=[t]:=rfl;rw[e1,e2,Hi,Hi]; omega
def Atk:∀(l:List Cn) (t:Te) (h:Nat),Ds h t->(∀ x∈l,Ar x=true)->Ds (h+l.length) (l.foldl Gi t)/\wT (l.foldl Gi t)=wT t+l.length+Bd l
 | [],t,h,ht,_=>⟨ht,by simp[Bd]⟩
 |c::l,t,h,ht,hl=>by
  obtain⟨h1,h2⟩:=Atk l (Gi t c) (h+1) (Bql ht (hl c Ab)) (fun x hx=>hl x (by simp[hx]));refine⟨kz _ _ _ h1 (by simp;omega),?_⟩;rw[yf,h2,Bsl,Bd];simp;omega
def Atl:∀(l:List Cn) (t:Te),Dg t->(∀ x∈l,Al x<=1000000000000)->Dg (l.foldl Gi t)
 | [],_,h,_=>h
 |c::l,t,h,hl=>Atl l (Gi t c) (by
  rw[We]
  exact⟨hl c Ab,by show Al A3<=_;decide,fun x hx=>by
   have hx:x=t:=by simpa[Gi,Te.l]using hx
   rw[hx]; exact h⟩) (fun x hx=>hl x (by simp[hx]))
structure Few (f a:El) (l:List Cn) (c:Te):Prop where
 fk:f.ks.length+a.ks.length+f.s.more.length<=1000
 fl:l.length<=100
 fs:(Bd l:Int)+wT c<=10000
 fd:tD c<=200
noncomputable def lY(f a:El):Sm:=(E0 f.s a.ks.length 0).1.l.getD 1 Dl
def Qe(f a:El)(l:List Cn):Prop:=((E0 f.s a.ks.length 0).2=0/\(Iz (lY f a) f.s.more l).2=27)\/(Lf f a=true/\(Ms (G5 f a) l).2=27)
inductive Wl (f a:El) (l:List Cn) (c:Te):El×Int->Prop
 |arg (h:I3 f a l c=false):Wl f a l c (D7,1)
 |typ (h:I3 f a l c=true) (h1:¬f.s.op=6):Wl f a l c (D7,12)
 |len (h:I3 f a l c=true) (h1:f.s.op=6) (h2:¬l.length=f.s.ks.length):Wl f a l c (D7,1)
 |err (h:I3 f a l c=true) (h1:f.s.op=6) (h2:l.length=f.s.ks.length) (E:Int) (hE:E=6\/(E=27/\Qe f a l)):Wl f a l c (D7,E)
 |good (h:I3 f a l c=true) (h1:f.s.op=6) (h2:l.length=f.s.ks.length) (r:Sm) (t:Te) (hs:(E0 f.s a.ks.length 0).2=0) (hp:Iz (lY f a) f.s.more l=(r,0))
  (ho:I9 ⟨Nn f a,if Lf f a=true then G5 f a else [],Lf f a,r,t⟩=true):
  Wl f a l c (⟨Nn f a,if Lf f a=true then G5 f a else [],Lf f a,r,t⟩,0)
def Bo7{s:Sm}(h:Cu s=true)(d fr:Int):(E0 s d fr).2=0\/(E0 s d fr).2=6:=by
 unfold E0 Jf;rw[Ac (by simp[h])];split
 . exact .inr rfl
 exact .inl rfl
def xe{s:Sm}{d fr:Int}(h:(E0 s d fr).2=0):Cu (E0 s d fr).1=true/\(E0 s d fr).1.op=s.op:=by
 unfold E0 at h ⊢;split at h
 . simp at h
 rename_i h1;rw[Ac h1];obtain⟨e1,e2,e3⟩:=gw h;rw[e3];refine⟨e2,?_⟩;rw[wv]at e1 ⊢;split at e1
 . rename_i hc;exact absurd e1 hc.2
 rename_i hc;rw[Ac hc];split at e1
 . rename_i hd;exact absurd e1 hd
 rename_i hd;rw[Ac hd]; rfl
def Bo6{s:Sm}(d fr:Int):Dd (E0 s d fr).1:=by
 by_cases h:(E0 s d fr).2=0
 . exact ib (xe h).1
 have:(E0 s d fr).1=Dl:=by
  unfold E0 at h ⊢;split
  . rfl
  rename_i h1;rw[Ac h1]at h;unfold Jf at h ⊢;split
  . rfl
  rename_i h2;rw[Ac h2]at h;exact absurd rfl h
 rw[this,Ju];exact⟨by show Al A3<=_;decide,fun x hx=>by cases hx⟩
def Baz(f a:El):Dd (lY f a):=by
 unfold lY;have h:=Bo6 (s:=f.s) (a.ks.length:Int) 0;generalize (E0 f.s a.ks.length 0).1=u at h;rw[Ju]at h;rw[Jb]
 cases hg:u.l[1]? with
 |none=>rw[Ahm,Ju]; exact⟨by show Al A3<=_;decide,fun x hx=>by cases hx⟩
 |some y=>exact h.2 y (Sr hg)
def Bnj{s:Sm}{ks:B6}{l:Ax}(hw:Cu (Ee ks s)=true)(hl:l.all Ar=true)(Dw:l.length<=1000):(Iz s ks l).2=0\/(Iz s ks l).2=6\/(Iz s ks l).2=27:=by
 have h1:(Ga (Ee ks s) l.reverse).2=0\/(Ga (Ee ks s) l.reverse).2=6:=by
  unfold Ga Jf;rw[Ac (by rw[qa]; simp[hw,hl]),Ac (by simp;omega)];split
  . exact .inr rfl
  exact .inl rfl
 rw[og];split
 . rename_i h;exact .inr (.inl (h1.resolve_left h))
 rename_i h;have hf:=(xh (Decidable.not_not.1 h)).2.1;split
 . unfold J3 Jf at *;rw[Ac (by simp[hf])];split
   . exact .inr (.inr rfl)
   split
   . exact .inr (.inl rfl)
   rename_i h2 h3 _;exact .inl rfl
 exact .inl rfl
def Ayw{s:Sm}{ks:B6}{l:Ax}(h:(Iz s ks l).2=0):Cu (J3 (Ga (Ee ks s) l.reverse).1).1=true/\∃r,(J3 (Ga (Ee ks s) l.reverse).1).1.l=[r]/\(Iz s ks l).1=r:=by
 rw[og]at h ⊢;split at h
 . rename_i h1;exact absurd h h1
 rename_i h1;rw[Ac h1];split at h
 . rename_i h2;exact absurd h h2
 rename_i h2;rw[Ac h2];obtain⟨_,m2,m3⟩:=Av3 (Decidable.not_not.1 h2);have k3:=(xh (Decidable.not_not.1 h1)).2.2;have Qa:=(U2 ((X9 _).1 (Vr m2)).1).2.1 (by rw[m3,k3]; rfl);refine⟨m2,?_⟩;generalize (J3 (Ga (Ee ks s) l.reverse).1).1.l=L at Qa
 match L,Qa with
 | [r],_=>exact⟨r,rfl,rfl⟩
def Bni(s:Sm)(ks:B6)(l:Ax):Dd (Iz s ks l).1:=by
 by_cases h:(Iz s ks l).2=0
 . obtain⟨h1,r,h2,h3⟩:=Ayw h;rw[h3];exact((Ju _).1 (ib h1)).2 r (by rw[h2]; simp)
 have:(Iz s ks l).1=Dl:=by
  rw[og]at h ⊢;split
  . rfl
  rename_i h1;rw[Ac h1]at h;split
  . rfl
  rename_i h2;rw[Ac h2]at h;exact absurd rfl h
 rw[this,Ju];exact⟨by show Al A3<=_;decide,fun x hx=>by cases hx⟩
end
def Ay5(o n:Int)(s:Bu)(k:Kd)(ns:List Bu)(l:Ax)(d fr:Int):Dm (.mk o n s k ns l) d fr=if o=1 then(if(if 20001<fr then 20001 else fr)<=n then Ch (IntKind.i64.wrap (n+d))else .mk o n s k ns l)else .mk o n s k ns (Lz l d (if Bw o=true then IntKind.i64.wrap ((if 20001<fr then 20001 else fr)+1)else(if 20001<fr then 20001 else fr))):=by rw[Dm]
mutual
def wt(d:Int)(hd: -1000000<=d)(Dy:d<=1000000):∀(c:Cn) (fr fr':Int),Hw 20000 c->0<=fr->0<=fr'->(fr=fr'\/20001<=fr/\20001<=fr')->fr<=1000000000->Dm c d fr=Fe c d fr'
 | .mk o n s k ns l,fr,fr',hf,h0,h0',he,hb=>by
   rw[Hw]at hf;rw[Ay5,Fe];by_cases h1:o=1
   . obtain⟨g0,g1,g2⟩:=hf.1 h1;rw[Ae h1,Ae h1,Au (n:=n+d) Aa Aa];by_cases h2:20001<fr
     . rw[Ae h2,Ac Aa,Ac Aa]
     rw[Ac h2];by_cases h3:fr<=n
     . rw[Ae h3,Ae Aa]
     rw[Ac h3,Ac Aa]
   rw[Ac h1,Ac h1];congr 1;by_cases h2:20001<fr
   . rw[Ae h2,Au (n:=20001+1) Aa Aa];exact Ae3 d hd Dy l _ _ hf.2 (by split<;>omega) (by split<;>omega) (by split<;>omega) (by split<;>omega)
   rw[Ac h2,Au (n:=fr+1) Aa Aa];exact Ae3 d hd Dy l _ _ hf.2 (by split<;>omega) (by split<;>omega) (by split<;>omega) (by split<;>omega)
def Ae3(d:Int)(hd: -1000000<=d)(Dy:d<=1000000):∀(l:List Cn) (fr fr':Int),Tj 20000 l->0<=fr->0<=fr'->(fr=fr'\/20001<=fr/\20001<=fr')->fr<=1000000000->Lz l d fr=Hs l d fr'
 | [],_,_,_,_,_,_,_=>rfl
 |c::cs,fr,fr',hf,h0,h0',he,hb=>by
  rw[Lz,Hs,wt d hd Dy c fr fr' hf.1 h0 h0' he hb,Ae3 d hd Dy cs fr fr' hf.2 h0 h0' he hb]
end
mutual
def Ay6(d:Int)(hd: -1000000<=d)(Dy:d<=1000000):∀(c:Cn) (fr:Int),Hw 1000000 c->0<=fr->fr+Bo c<=20000->Dm c d fr=Fe c d fr
 | .mk o n s k ns l,fr,hf,h0,hdp=>by
   rw[Hw]at hf;have M4:=Jt (.mk o n s k ns l);simp only[Cn.l]at M4;rw[Ay5,Fe,Ac (show ¬20001<fr by omega)];by_cases h1:o=1
   . obtain⟨-,g1,g2⟩:=hf.1 h1;rw[Ae h1,Ae h1,Au (n:=n+d) Aa Aa]
   rw[Ac h1,Ac h1,Au (n:=fr+1) Aa Aa,Aza d hd Dy l _ hf.2 (by split<;>omega) (by split<;>omega)]
def Aza(d:Int)(hd: -1000000<=d)(Dy:d<=1000000):∀(l:List Cn) (fr:Int),Tj 1000000 l->0<=fr->fr+Cz l<=20000->Lz l d fr=Hs l d fr
 | [],_,_,_,_=>rfl
 |c::cs,fr,hf,h0,hdp=>by
  simp only[Cz]at hdp;rw[Lz,Hs,Ay6 d hd Dy c fr hf.1 h0 Aa,Aza d hd Dy cs fr hf.2 h0 Aa]
end
mutual
def Bnx(l:List Cn)(hl:∀x∈l,Hw 1000000 x/\Bo x<=5000)(Dw:l.length<=100000):∀(c:Cn) (d:Int),Hw 1000000 c->0<=d->d<=1000000->Bo c<=5000->Do l c d=F5 l c d:=fun c d h1 h2 h3 h4=>Azg l hl Dw c d h1 h2 Aa
def Azg(l:List Cn)(hl:∀x∈l,Hw 1000000 x/\Bo x<=5000)(Dw:l.length<=100000):∀(c:Cn) (d:Int),Hw 1000000 c->0<=d->d+Bo c<=1005000->Do l c d=F5 l c d
 | .mk o n s k ns cl,d,hf,h0,hdp=>by
   rw[Hw]at hf;have M4:=Jt (.mk o n s k ns cl);simp only[Cn.l]at M4;rw[Do,F5];by_cases h1:o=1
   . obtain⟨hv,g1,g2⟩:=hf.1 h1;rw[Ae h1,Ae h1];by_cases h2:n<d
     . rw[Ae h2,Ae h2]
     rw[Ac h2,Ac h2,Au (n:=n-d) Aa Aa];by_cases h3:n-d<l.length
     . have Af:(n-d).toNat<l.length:=by omega
       have hx:=hl l[(n-d).toNat] (Cy Af);rw[Ae h3,Jb,Il Af];simp only[lu];exact Ay6 d Aa Aa _ 0 hx.1 Aa Aa
     rw[Ac h3,Im Aa,Au Aa Aa];unfold Ch at hv ⊢;injection hv with a1 a2 a3 a4 a5 a6
     rw[a1,a3,a4,a5,a6]
   rw[Ac h1,Ac h1,Au (n:=d+1) Aa Aa,Azj l hl Dw cl _ hf.2 (by split<;>omega) (by split<;>omega)]
def Azj(l:List Cn)(hl:∀x∈l,Hw 1000000 x/\Bo x<=5000)(Dw:l.length<=100000):∀(cl:List Cn) (d:Int),Tj 1000000 cl->0<=d->d+Cz cl<=1005000->Ri l cl d=Mg l cl d
 | [],_,_,_,_=>rfl
 |c::cs,d,hf,h0,hdp=>by
  simp only[Cz]at hdp;rw[Ri,Mg,Azg l hl Dw c d hf.1 h0 Aa,Azj l hl Dw cs d hf.2 h0 Aa]
end
mutual
def Az3(f g:Cn->Int->Cn)(z:Int):∀(s:Sm) (d:Int) (h:Nat),Lb h s->0<=d->d+2000*h<=1000000->Gg f (I8 g s (d+z)) d=I8 (fun c k=>f (g c (k+z)) k) s d
 | .mk o n s c k ks more names l,d,0,ht,_,_=>ht.elim
 | .mk o n s c k ks more names l,d,h+1,ht,h0,hd=>by
   have hlen:=fun i hi=>Av7 (i:=i) ht.1 hi;simp only[Sm.op,Sm.ks,Sm.more,Sm.l]at hlen;rw[I8,Gg,I8,Az6 f g z l o ks more 0 d h (fun x hx=>ht.2 x hx) (Z5 ht.1) (fun i _ hi=>hlen i Aa) h0 Aa];congr 1;split
   . rfl
   rfl
def Az6(f g:Cn->Int->Cn)(z:Int):∀(l:List Sm) (o:Int) (ks more:List Kd) (i:Nat) (d:Int) (h:Nat),(∀ x∈l,Lb h x)->(∀ i,0<=E6 o ks more i/\E6 o ks more i<=2000)->(∀ j,i<=j->j<i+l.length->K7 ks more j=E6 o ks more j)->0<=d->d+2000+2000*h<=1000000->Nx f ks more (Mi g o ks more l i (d+z)) i d=Mi (fun c k=>f (g c (k+z)) k) o ks more l i d
 | [],_,_,_,_,_,_,_,_,_,_,_=>rfl
 |x::xs,o,ks,more,i,d,h,ht,hb,hlen,h0,hd=>by
  have h1:=hb i
  rw[Mi,Nx,Mi,hlen i (Bm _) Ab,Au Aa Aa,show d+z+E6 o ks more i=d+E6 o ks more i+z by omega,Az3 f g z x _ h (ht x Ab) Aa Aa,
   Az6 f g z xs o ks more (i+1) d h (fun y hy=>ht y (by simp[hy])) hb (fun j h1 h2=>hlen j Aa (by simp;omega)) h0 hd]
end
def byR_L{m:Nat}(hm:m<=1000){l:Ax}(hl:∀x∈l,Ar x=true):T8 m l=Ry m l.reverse:=by
 rw[T8,Ry];congr 1;apply yl;intro x hx;have hv:=hl x (by simpa using hx);exact wt m Aa Aa x 0 0 (ad x (Gz hv).2.2) Aa Aa (.inl rfl) Aa
def A5i{m:Nat}(hm:m<=1000){l:Ax}(hl:∀x∈l,Ar x=true):∀x∈Ry m l,Hw 1000000 x/\Bo x<=5000:=by
 intro x hx;rw[Ry,er,qf,qf]at hx;rcases hx with⟨i,hi,rfl⟩|⟨y,hy,rfl⟩
 . rw[Ag9]at hi;exact⟨Agj Aa Aa,by simp[Ch,Bo,Cz]⟩
 have hv:=hl y hy;have h1:=(um (m:Int) y 0).2;have h2:=(Gz hv).2.1;exact⟨xt Aa _ (Agi 20000 m Aa y 0 (ad y (Gz hv).2.2)),Aa⟩
def Bsg{m:Nat}(hm:m<=1000){l:Ax}(hl:∀x∈l,Ar x=true)(Dw:l.length<=1000)(s:Sm)(ht:Lb 399 s):Th m l s=I8 (fun c k=>F5 l.reverse c k) s m:=by
 have hlr:∀x∈l.reverse,Ar x=true:=fun x hx=>hl x (by simpa using hx)
 have e1:Gg (fun c k=>Dm c m k) s ((m:Int)+l.length)=I8 (fun c k=>Fe c m k) s (0+((m:Int)+l.length)):=by
  rw[p9];exact Aff _ _ (fun c d hv h0 h1=>wt m Aa Aa c d d (ad c (Gz hv).2.2) h0 h0 (.inl rfl) Aa) s _ 399 ht Aa Aa
 rw[Th,e1,Az3 _ _ _ s 0 399 ht Aa Aa]
 have e2:I8 (fun c k=>F5 l.reverse c k) s m=I8 (fun c k=>F5 l.reverse c (k+m)) s 0:=by
  have:=Avy (fun c k=>F5 l.reverse c k) (m:Int) s 0;rw[p9]at this;exact this
 rw[e2];refine Avz _ _ (fun c d hv h0 h1=>?_) s 0 399 ht Aa Aa;rw[byR_L hm hl];have hvf:=ad c (Gz hv).2.2;have Cl:=(um (m:Int) c (d+((m:Int)+l.length))).2;have hdp:=(Gz hv).2.1;rw[Bnx _ (A5i hm hlr) (by simp[Ry]; omega) _ d (xt Aa _ (Agi 20000 m Aa c _ hvf)) h0 h1 Aa];have:=A2i l.reverse m c d (Gz hv).2.2 h0;rw[List.length_reverse]at this;exact this
mutual
def Adn:∀(s:Sm) (left left' d d':Int),(mS s left d).2=true->left<=left'->d'<=d->mS s left' d'=mS s left d
 | .mk o n s c k ks more names l,left,left',d,d',h,hl,hd=>by
   rw[mS]at h;split at h
   . cases h
   rename_i h1;have g1:¬left<=0:=fun h=>h1 (.inl h);have g2:¬400<d:=fun h=>h1 (.inr (.inl h));rw[mS,mS,Ac h1,Ac (by rintro(h2|h2|h2)<;>first |omega|exact h1 (.inr (.inr h2)))];exact Avq l left left' d d' _ h hl hd
def Avq:∀(l:List Sm) (left left' d d' n:Int),(F7 l left d n).2=true->left<=left'->d'<=d->F7 l left' d' n=F7 l left d n
 | [],left,left',d,d',n,h,hl,_=>by
   rw[F7]at h;simp only[Aw]at h;rw[F7,F7]
   simp only[h,show n<=left' by omega]
 |x::xs,left,left',d,d',n,h,hl,hd=>by
  rw[F7]at h;split at h
  . rename_i h1;rw[F7,F7,Adn x (left-n) (left'-n) (d+1) (d'+1) h1 Aa Aa,Ae h1,Ae h1];exact Avq xs left left' d d' _ h hl hd
  cases h
end
def Avr:∀(l:List Sm) (left d n:Int),0<=n->(F7 l left d n).2=true->∀x∈l,∃left1,left1<=left/\(mS x left1 (d+1)).2=true
 | [],_,_,_,_,_,x,hx=>by cases hx
 |y::ys,left,d,n,hn,h,x,hx=>by
  rw[F7]at h;split at h
  . rename_i h1;rcases List.mem_cons.1 hx with rfl|hx
    . exact⟨left-n,Aa,h1⟩
    have:=(cj y _ _ h1).1;exact Avr ys left d _ Aa h x hx
  cases h
def Bkx{s:Sm}(h:Cu s=true){x:Sm}(hx:x∈s.l):Cu x=true:=by
 unfold Cu at h ⊢;rw[vj]at h;split at h
 . cases h
 obtain⟨left1,h1,h2⟩:=Avr s.l 20000 1 _ (by split<;>omega) h x hx;rw[Adn x left1 20000 (1+1) 1 h2 h1 Aa]; exact h2
def A2w{s:Sm}(hs:Cu s=true)(hop:s.op=6){x y:Sm}(hl:s.l=[x,y]):Cu (Ee s.more y)=true:=by
 unfold Cu at hs ⊢;rw[vj]at hs;split at hs
 . cases hs
 rename_i h1
 have hn:Cp s=true:=by
  cases hn:Cp s
  . exact absurd (.inr (.inr hn)) h1
  rfl
 have e1:Dr s.op=false:=by rw[hop]; rfl
 rw[hl,e1,F7]at hs;simp only[Dp,Bq]at hs;split at hs
 case isFalse=>cases hs
 rename_i h2;rw[F7]at hs;split at hs
 case isFalse=>cases hs
 rename_i h3;rw[F7]at hs;simp only[Aw]at hs;have hx:=(cj x _ _ h2).1;have hy:=Adn y _ (20000-(1+0)) (1+1) (1+1) h3 Aa Aa
 have hnw:Cp (Ee s.more y)=true:=by
  have h6:=hn;simp only[Cp,m1,m5,Hh,hop,hl,Bb]at h6;simp only[show ¬((6:Int)=1\/(6:Int)=2\/(6:Int)=3) by omega,show ¬(6:Int)=4 by omega,Bq,Bp,Bb]at h6;obtain⟨⟨⟨_,g1⟩,_⟩,_,_,_,g2,g3,_⟩:=h6;have e2:m1 (Ee s.more y)=(Ng y.op&&true):=Bc;have e3:m2 (Ee s.more y)=Gd A3 A3:=Bc;have e4:m3 (Ee s.more y)=true:=Bc;have e5:m4 (Ee s.more y)=true:=Bc;have e6:m5 (Ee s.more y)=(true&&(J1 s.more&&true)):=Bc;rw[Cp,e2,e3,e4,e5,e6,g1,g3]; rfl
 rw[vj,Ac (by rintro(h|h|h)<;>first |omega|(rw[hnw]at h;cases h))];show(F7 [y] 20000 1 (1+0)).2=true;rw[F7,hy];rw[Ae h3,F7];simp only[Aw];omega
def A0w{s:Sm}(hs:Cu s=true){n:Nat}(hn:n<=1000)(h:(E0 s n 0).2=0):(E0 s n 0).1=rsh n s 0:=by
 have ht:=Uc hs;unfold E0 at h ⊢;rw[Ac (by simp[hs])]at h ⊢;obtain⟨e1,_,e3⟩:=gw h;rw[e3]
 have h2:=Ae5 (fun c k=>Ed c n (0+k)) (fun c k=>Fe c n k) (fun c d r hv h0 h1 he=>by
  have:=(A0s Aa Aa hv he).1
  rw[p9]at this;exact this) s 0 400 _ ht Aa Aa (Prod.ext rfl e1)
 refine Eq.trans h2 ?_;rw[rsh];exact(Aff _ _ (fun c d hv h0 h1=>wt n Aa Aa c d d (ad c (Gz hv).2.2) h0 h0 (.inl rfl) Aa) s 0 400 ht Aa Aa).symm
def A0a(n:Int)(s:Sm)(d:Int):(rsh n s d).more=s.more:=(wz _ s d).2.1
def Bnk{y r:Sm}{more:B6}{l:Ax}(hw:Cu (Ee more y)=true)(hm:more.length<=1000)(hl:∀x∈l,Ar x=true)(Dw:l.length<=1000)(hn:NS (Th more.length l y) r):Iz y more l=(r,0)\/(Iz y more l).2=6:=by
 have htw:=Uc hw;have hty:Lb 399 y:=htw.2 y (by simp[Ee,Sm.l]);have hlr:∀x∈l.reverse,Ar x=true:=fun x hx=>hl x (by simpa using hx);rw[Bsg hm hl Dw y hty]at hn;rw[og]
 have D4:(Ga (Ee more y) l.reverse).2=0\/(Ga (Ee more y) l.reverse).2=6:=by
  unfold Ga Jf;rw[Ac (by rw[qa,List.all_eq_true.2 hl]; simp[hw]),Ac (by simp;omega)];split
  . exact .inr rfl
  exact .inl rfl
 rcases D4 with h0|h6
 case inr=>rw[Ae (by rw[h6]; decide)]; exact .inr h6
 rw[Ac (by simp[h0])]
 have Sh:(Ga (Ee more y) l.reverse).1=Ee more (I8 (fun c k=>F5 l.reverse c k) y more.length)/\Cu (Ga (Ee more y) l.reverse).1=true:=by
  refine⟨?_,(xh h0).2.1⟩;unfold Ga at h0 ⊢;rw[Ac (by rw[qa,List.all_eq_true.2 hl]; simp[hw]),Ac (by simp;omega)]at h0 ⊢;obtain⟨e1,_,e3⟩:=gw h0;rw[e3];have h2:=Ae5 (fun c d=>sb l.reverse c d) (fun c d=>F5 l.reverse c d) (fun c d r hv h0 h1 he=>A0i l.reverse hlr (by simpa using Dw) c d r (Gz hv).2.2 h0 (by have:=(Gz hv).2.1;omega) he) (Ee more y) 0 400 _ htw Aa Aa (Prod.ext rfl e1);refine Eq.trans h2 ?_;have e4:Dr 4=false:=Bc;rw[Ee,I8,Mi,Mi,e4,Ee];simp[E6]
 obtain⟨Sh,huf⟩:=Sh;rw[Sh]at huf ⊢
 have hNS:NS (Ee more (I8 (fun c k=>F5 l.reverse c k) y more.length)) (Ee more r):=by
  rw[Ee,NS];refine⟨A3,[r],rfl,?_,r,[],rfl,hn,rfl⟩;have e4:¬Dr 4=true:=Di;rw[Ac e4]
 have Iu:=Ahf _ _ 0 400 (Uc huf) hNS;have hnS:U1 (Ee more (I8 (fun c k=>F5 l.reverse c k) y more.length))=(Ee more r,0):=Iu
 have hnN:J3 (Ee more (I8 (fun c k=>F5 l.reverse c k) y more.length))=Jf (Ee more r,0):=by
  rw[J3,Ac (by simp[huf]),hnS,Ac Ab]
 rw[hnN];unfold Jf;cases hf:Cu (Ee more r)
 . exact .inr Ab
 exact .inl (by simp[Ee,Sm.l])
def Arb{w:List Cn}(hw:∀x∈w,Ar x=true)(Dw:w.length<=1000):∀(l:List Cn),(∀ x∈l,Ar x=true)->(∀ x∈l,Ar (Do w.reverse x 0)=true/\∃q m,Fu [Do w.reverse x 0] 10000 [q] m)->(Ms w l).2=0
 | [],_,_=>rfl
 |x::l,hv,h=>by
  obtain⟨h1,q,m,h2⟩:=h x Ab;have hwr:∀x∈w.reverse,Ar x=true:=fun x hx=>hw x (by simpa using hx);rw[Aze (hv x Ab) hwr (by simp;omega)]at h1 h2;have h3:=A1g (hv x Ab) hwr (by simpa using Dw) h1
  have h4:Py x w=(q,0):=by
   rw[Py,h3,Ac Ab];exact(Adq h1).2 q m h2
  rw[Ms,Ae (by rw[h4])];exact Arb hw Dw l (fun y hy=>hv y (by simp[hy])) (fun y hy=>h y (by simp[hy]))
def A7o{c:Cn}{w:Ax}(hc:Ar c=true)(hw:∀x∈w,Ar x=true)(Dw:w.length<=1000):(Py c w).2=0\/(Py c w).2=6\/(Py c w).2=27:=by
 have hwr:w.reverse.all Ar=true:=by rw[qa]; exact List.all_eq_true.2 hw
 have h1:((Eg c w.reverse).2=0/\Ar (Eg c w.reverse).1=true)\/(Eg c w.reverse).2=6:=by
  unfold Eg Ki;rw[Ac (by rw[hwr]; simp[hc]),Ac (by simp;omega)];split
  . exact .inr rfl
  rename_i h;simp only[Jo,xz]at h;exact .inl ⟨rfl,h.2⟩
 unfold Py;rcases h1 with⟨h1,h2⟩|h1
 . rw[Ac (by simp[h1])];rcases(Adq h2).1 with h|h
   . exact .inl h
   exact .inr (.inr h)
 rw[Ae (by rw[h1]; decide)]; exact .inr (.inl h1)
def Ara{w:List Cn}(hw:∀x∈w,Ar x=true)(Dw:w.length<=1000):∀(l:List Cn),(∀ x∈l,Ar x=true)->(Ms w l).2=0\/(Ms w l).2=6\/(Ms w l).2=27
 | [],_=>.inl rfl
 |x::l,hv=>by
  rw[Ms];split
  . exact Ara hw Dw l (fun y hy=>hv y (by simp[hy]))
  exact A7o (hv x Ab) hw Dw
def Arc{w:List Cn}(hw:∀x∈w,Al x<=1000000000000):∀(l:List Cn),(∀ x∈l,Al x<=1000000000000)->∀x∈(Ms w l).1,Al x<=1000000000000
 | [],_,x,hx=>by simp[Ms]at hx
 |c::l,hl,x,hx=>by
  rw[Ms]at hx;split at hx
  . rcases List.mem_cons.1 hx with rfl|hx
    . have:=(Ave c w (hl c Ab) hw).2;omega
    exact Arc hw l (fun y hy=>hl y (by simp[hy])) x hx
  simp at hx
