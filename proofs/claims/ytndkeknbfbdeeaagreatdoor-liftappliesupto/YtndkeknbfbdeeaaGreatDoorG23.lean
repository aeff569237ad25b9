/- A part of the proof that LiftApplies answers true. -/
import Derived.Test.YtndkeknbfbdeeaaGreatDoorG22
set_option linter.all false
set_option maxHeartbeats 4000000
set_option maxRecDepth 100000
namespace Go.Proofs.YtndkeknbfbdeeaaGreatDoor
open Go
variable {Q:AX->Ao->Ai->Prop}{H:Ai}{t:Ao}{ro:Option Nat}{P:Program}
section
attribute [-simp] Int.not_lt Int.not_le
attribute [local simp] Cb Cq
def gk(c:Cn)(hc:Al c<=1000000000000):Hc 185 [Ad c] (.bool !Ar c):=by
 refine Hg Bda fun Q hQ=>?_;simp[Ad,Ap c];refine Ca (Lc c hc) ?_;simp;exact hQ
noncomputable def N3(t:Te):Te×Int:=if Pk t=true then(t,0)else(Cj,6)
def A8k(t:Te)(ht:Dg t):Hc 67 [Ah t] (Cf (N3 t)):=by
 have h:=(Wf t ht).1;have key:N3 t=if Pk t=true then(t,0)else(Cj,6):=rfl;generalize Pk t=b at h key;cases b
 . have key:N3 t=(Cj,6):=by rw[key]; rfl
   refine Hg Awq fun Q hQ=>?_;simp[Ah,Aq t];refine Ca h ?_;simp;exact hQ (by simp[key,Cf,Ah,Km])
 have key:N3 t=(t,0):=by rw[key]; rfl
 refine Hg Awq fun Q hQ=>?_;simp[Ah,Aq t];refine Ca h ?_;simp;exact hQ (by simp[key,Cf,Ah,Aq t])
structure Rq (ks:List Kd) (s:Sm) (l:List Cn) (t:Te):Prop where
 s:Dd s
 t:Dg t
 l:∀x∈l,Al x<=1000000000000
 k:ks.length<=1000
noncomputable def Ly(ks:List Kd)(s:Sm)(l:List Cn)(t:Te):Bool:=Cu s&&ks.all Eu&&Pk t&&decide (l.length=ks.length)&&l.all Ar
def Bkv(ks:B6)(s:Sm)(l:Ax)(t:Te)(hA:Rq ks s l t)(Ii:Ly ks s l t=false):Hc 105 [C8 ks s,.sl .none (l.map Ag),Ah t] (Cf (Cj,1)):=by
 have h1:=dt s hA.s;have hp:=dv s;have h2:=gp ks;have h3:=(Wf t hA.t).1;have h5:=U9 l (fun x=>!Ar x) 185 fun x hx=>gk x (hA.l x hx);rw[Rs]at h5;unfold Ly at Ii;generalize Cu s=b1 at hp Ii;generalize K9 s=z at h1 hp;generalize ks.all Eu=b2 at h2 Ii;generalize Pk t=b3 at h3 Ii;generalize l.all Ar=b5 at h5 Ii;cases b1
 . have hz:z=0:=hp.2 rfl;subst hz;refine Hg V7 fun Q hQ=>?_;simp[C8,Ah,Av s,Aq t];refine Ca h1 ?_;simp;exact hQ (by simp[Cf,Ah,Km])
 have hz:¬z=0:=fun h=>by have:=hp.1 h;cases this
 have Qc:(z==0)=false:=by simpa using hz
 have hl:True:=trivial;have Ci:True:=trivial;cases b2
 . refine Hg V7 fun Q hQ=>?_;simp[C8,Ah,Av s,Aq t];refine Ca h1 ?_;simp[hz];refine Ca h2 ?_;simp;exact hQ (by simp[Cf,Ah,Km])
 cases b3
 . refine Hg V7 fun Q hQ=>?_;simp[C8,Ah,Av s,Aq t];refine Ca h1 ?_;simp[hz];refine Ca h2 ?_;simp;refine Ca h3 ?_;simp;exact hQ (by simp[Cf,Ah,Km])
 clear hl Ci;by_cases hl:l.length=ks.length
 case neg=>
  have Ci:¬(l.length:Int)=(ks.length:Int):=Aa;refine Hg V7 fun Q hQ=>?_;simp[C8,Ah,Av s,Aq t];refine Ca h1 ?_;simp[hz];refine Ca h2 ?_;simp;refine Ca h3 ?_;simp[Ci];exact hQ (by simp[Cf,Ah,Km])
 have Ci:(l.length:Int)=(ks.length:Int):=Aa;obtain rfl:b5=false:=by simpa[hl]using Ii
 refine Hg V7 fun Q hQ=>?_;simp[C8,Ah,Av s,Aq t];refine Ca h1 ?_;simp[hz];refine Ca h2 ?_;simp;refine Ca h3 ?_;simp[hl];refine Ca h5 ?_;simp;exact hQ (by simp[Cf,Ah,Km])
def Bkw(ks:B6)(s:Sm)(l:Ax)(t:Te)(hA:Rq ks s l t)(hok:Ly ks s l t=true)(o:Te)(e:Int)(he:e≠0)(hs:Hc 104 [Ah t,.int .i64 0,.int .i64 0] (Cf (o,e))):Hc 105 [C8 ks s,.sl .none (l.map Ag),Ah t] (Cf (Cj,e)):=by
 have h1:=dt s hA.s;have hp:=dv s;have h2:=gp ks;have h3:=(Wf t hA.t).1;have h5:=U9 l (fun x=>!Ar x) 185 fun x hx=>gk x (hA.l x hx);rw[Rs]at h5;unfold Ly at hok;simp only[Bb,Aw]at hok;obtain⟨⟨⟨⟨k1,k2⟩,k3⟩,hl⟩,k5⟩:=hok;rw[k2]at h2;rw[k3]at h3;rw[k5]at h5;have hz:¬K9 s=0:=fun h=>by have:=hp.1 h;rw[k1]at this;cases this
 have Qc:(K9 s==0)=false:=by simpa using hz
 have Ci:(l.length:Int)=(ks.length:Int):=Aa;generalize K9 s=z at h1 hz Qc;have he':(e != 0)=true:=by simpa using he
 refine Hg V7 fun Q hQ=>?_;simp[C8,Ah,Av s,Aq t];refine Ca h1 ?_;simp[hz];refine Ca h2 ?_;simp;refine Ca h3 ?_;simp[hl];refine Ca h5 ?_;simp;refine Ca hs ?_;simp[Cf,Ah,Aq o,he];exact hQ (by simp[Cf,Ah,Km])
def Bkq(ks:B6)(s:Sm)(l:Ax)(t:Te)(hA:Rq ks s l t)(hok:Ly ks s l t=true)(o:Te)(hs:Hc 104 [Ah t,.int .i64 0,.int .i64 0] (Cf (o,0)))(c:Cn)(e:Int)(he:e≠0)(hc:Hc 186 [C8 ks s] (Bf (c,e))):Hc 105 [C8 ks s,.sl .none (l.map Ag),Ah t] (Cf (Cj,e)):=by
 have h1:=dt s hA.s;have hp:=dv s;have h2:=gp ks;have h3:=(Wf t hA.t).1;have h5:=U9 l (fun x=>!Ar x) 185 fun x hx=>gk x (hA.l x hx);rw[Rs]at h5;unfold Ly at hok;simp only[Bb,Aw]at hok;obtain⟨⟨⟨⟨k1,k2⟩,k3⟩,hl⟩,k5⟩:=hok;rw[k2]at h2;rw[k3]at h3;rw[k5]at h5;have hz:¬K9 s=0:=fun h=>by have:=hp.1 h;rw[k1]at this;cases this
 have Qc:(K9 s==0)=false:=by simpa using hz
 have Ci:(l.length:Int)=(ks.length:Int):=Aa;generalize K9 s=z at h1 hz Qc;have he':(e != 0)=true:=by simpa using he
 refine Hg V7 fun Q hQ=>?_;simp[C8,Ah,Av s,Aq t];refine Ca h1 ?_;simp[hz];refine Ca h2 ?_;simp;refine Ca h3 ?_;simp[hl];refine Ca h5 ?_;simp;refine Ca hs ?_;simp[Cf,Ah,Aq o];refine Ca hc ?_;simp[Bf,Ad,Ap c,he];exact hQ (by simp[Cf,Ah,Km])
def Bks(ks:B6)(s:Sm)(t:Te)(hA:Rq ks s [] t)(hok:Ly ks s [] t=true)(o:Te)(hs:Hc 104 [Ah t,.int .i64 0,.int .i64 0] (Cf (o,0)))(c:Cn)(hc:Hc 186 [C8 ks s] (Bf (c,0))):Hc 105 [C8 ks s,.sl .none (([]:Ax).map Ag),Ah t] (Cf (o,0)):=by
 obtain⟨l,Kc⟩:∃l:Ax,l=[]:=⟨_,rfl⟩;rw[<- Kc]at hA hok ⊢;have h1:=dt s hA.s;have hp:=dv s;have h2:=gp ks;have h3:=(Wf t hA.t).1;have h5:=U9 l (fun x=>!Ar x) 185 fun x hx=>gk x (hA.l x hx);rw[Rs]at h5;unfold Ly at hok;simp only[Bb,Aw]at hok;obtain⟨⟨⟨⟨k1,k2⟩,k3⟩,hl⟩,k5⟩:=hok;rw[k2]at h2;rw[k3]at h3;rw[k5]at h5;have hz:¬K9 s=0:=fun h=>by have:=hp.1 h;rw[k1]at this;cases this
 have Qc:(K9 s==0)=false:=by simpa using hz
 have Ci:(l.length:Int)=(ks.length:Int):=Aa;generalize K9 s=z at h1 hz Qc;have hn:l.length=0:=by rw[Kc]; rfl
 have hn':(ks.length:Int)=0:=Aa;have hn2:ks.length=0:=Aa;refine Hg V7 fun Q hQ=>?_;simp[C8,Ah,Av s,Aq t];refine Ca h1 ?_;simp[hz];refine Ca h2 ?_;simp;refine Ca h3 ?_;simp[hl];refine Ca h5 ?_;simp;refine Ca hs ?_;simp[Cf,Ah,Aq o];refine Ca hc ?_;simp[Bf,Ad,Ap c,hl,hn2];exact hQ (by simp[Cf,Ah,Aq o])
def Qg:Nat->Cn->Prop
 |0,_=>True
 |n+1,c=>c.op=10/\∃x r,c.l=x::r/\Qg n x
def Aav:∀(ks:List Kd) (c:Cn),Qg ks.length (C9 10 ks c)
 | [],_=>trivial
 |k::ks,c=>⟨rfl,_,[],rfl,Aav ks c⟩
def Azs(L:Cn->Int->Cn):∀(n:Nat) (c:Cn) (bd left:Int),Qg n c->0<=(Ep L c bd left).2->Qg n (Ep L c bd left).1
 |0,_,_,_,_,_=>trivial
 |n+1,c,bd,left,⟨h1,x,r,h2,h3⟩,h=>by
  rw[Ae7]at h ⊢;split at h
  . simp at h
  rename_i hl;rw[Ac hl];have ho:¬(c.op=1\/c.op=2):=Aa;rw[Ac ho]at h ⊢;simp only at h ⊢;rw[h2,Ec]at h;rw[h2,Ec];simp only at h ⊢;refine⟨h1,_,_,rfl,Azs L n x _ _ h3 ?_⟩;by_cases hn:(Ep L x (Hp c.op bd) (left-1)).2<0
  . have:=Afa L r (Hp c.op bd) _ hn;omega
  omega
def A1f{n:Nat}{c:Cn}{l:Ax}(h:(Eg c l).2=0)(hn:Qg n c):Qg n (Eg c l).1:=by
 unfold Eg at h ⊢;split at h
 . simp at h
 rename_i h1;rw[Ac h1];split at h
 . simp at h
 rename_i h2;rw[Ac h2];unfold Ki at h ⊢;split at h
 . simp at h
 rename_i h3;rw[Ac h3];exact Azs _ n c 0 20000 hn Aa
def A8b{ks:B6}{s:Sm}(h:(W8 ks s).2=0):Qg ks.length (W8 ks s).1/\Al (W8 ks s).1<=20000:=by
 unfold W8 at h ⊢;split at h
 . rename_i h1;unfold G6 at h ⊢;split at h
   . rename_i h2;rw[Ae h1,Ae h2]; exact⟨Aav ks _,Kn h2⟩
   simp at h
 rename_i h1;exact absurd h h1
def L3:List Cn->Cn->Option (List Cn)
 | [],_=>some []
 | [_],c=>some [c]
 |x::y::r,c=>if(Eg (c.l.headD A3) [x]).2=0 then(L3 (y::r) (Eg (c.l.headD A3) [x]).1).map (c :: ·)else none
def A13(x:Cn)(l:Ax)(c:Cn)(h:l.length=0):L3 (x::l) c=some [c]:=by
 cases l with
 |nil=>rfl
 |cons y r=>simp at h
def A12(x:Cn)(l:Ax)(c:Cn)(h:0<l.length):L3 (x::l) c=if(Eg (c.l.headD A3) [x]).2=0 then(L3 l (Eg (c.l.headD A3) [x]).1).map (c :: ·)else none:=by
 cases l with
 |nil=>simp at h
 |cons y r=>rfl
def A11:∀(l:List Cn) (c:Cn) (ts:List Cn),L3 l c=some ts->ts.length=l.length
 | [],_,ts,h=>by simp only[L3,Ay]at h;subst h;rfl
 | [_],_,ts,h=>by simp only[L3,Ay]at h;subst h;rfl
 |x::y::r,c,ts,h=>by
  rw[L3]at h;split at h
  . simp only[Ef]at h;obtain⟨u,h1,rfl⟩:=h;simp[A11 _ _ _ h1]
  cases h
def Af7:∀(l:List Cn) (c:Cn) (ts:List Cn),L3 l c=some ts->Al c<=20000->∀x∈ts,Al x<=20000
 | [],_,ts,h,_=>by simp only[L3,Ay]at h;subst h;simp
 | [_],_,ts,h,hc=>by simp only[L3,Ay]at h;subst h;simpa using hc
 |x::y::r,c,ts,h,hc=>by
  rw[L3]at h;split at h
  . simp only[Ef]at h;obtain⟨u,h1,rfl⟩:=h;intro z hz;rcases List.mem_cons.1 hz with rfl|hz
    . exact hc
    exact Af7 _ _ _ h1 (ky _ _).1 z hz
  cases h
def Aad[D6]{e:TypeId}(A G:Ai)(hH:H=A++G){tok:Dh}{els:List Ao}{k:Nat}{row:Ao}{dst:Option Nat}{l:B8}{kf:I7}{Q:Co}(h:owns A.length G tok els k)(hl:els.length+1<=A1)(hk:D3 k els=true)(hr:row.length=k)
 (hn:∀tok' G',owns A.length G' tok' (els++[row]) k->(∀ (i:Nat) cs,G[i]? =some (.var cs)->G'[i]? =some (.var cs))->I1 P l kf Q (Cd t dst (.sl tok' (els++[row]))) (A++G')):ew P (Ey k e tok els [row] H) dst l kf Q t:=by
 subst hH;have hk2:D3 k [row]=true:=by simp[D3,hr]
 rcases h with⟨rfl,rfl⟩|⟨j,e',rfl,hj⟩
 . have e1:Ey k e .nilT [] [row] (A++G)=some (.sl (.own (A++G).length) [row],A++(G++[.tok 1 k e])):=by
    simp[Ey,hk,hk2,Id,A1]
   rw[e1];refine hn _ _ (.inr ⟨G.length,e,Ab,Ab⟩) fun i cs hi=>?_;rw[D5 (List.getElem?_eq_some_iff.1 hi).1]; exact hi
 have Ge:=(List.getElem?_eq_some_iff.1 hj).1
 have hg:(A++G)[A.length+j]? =some (.tok els.length k e'):=by
  rw[Hj Aa]; simpa using hj
 have Vw:(A++G).set (A.length+j) (.tok (els.length+1) k (if e'=e then e else 0))=A++G.set j (.tok (els.length+1) k (if e'=e then e else 0)):=by
  rw[qg _ _ Aa]; simp
 have e1:Ey k e (.own (A.length+j)) els [row] (A++G)=some (.sl (.own (A.length+j)) (els++[row]),A++G.set j (.tok (els.length+1) k (if e'=e then e else 0))):=by
  simp only[Ey,qe,hl,hk,hk2,Mq,Bp,hg,Vw]
 rw[e1];refine hn _ _ (.inr ⟨j,_,rfl,by simp[Ks Ge]; rfl⟩) fun i cs hi=>?_;have Bg:j≠i:=fun e=>by subst e;rw[hj]at hi;cases hi
 rw[Ia Bg]; exact hi
def Au1{a b c d e f f':HB}{G:Ai}{i:Nat}{cs:Ao}(hb:(!decide (i=5))=true)(h:(a::b::c::d::e::f::G)[i]? =some (.var cs)):(a::b::c::d::e::f'::G)[i]? =some (.var cs):=by
 rcases i with _|_|_|_|_|_|i
 . exact h
 . exact h
 . exact h
 . exact h
 . exact h
 . simp at hb
 simpa using h
def jq:AV->Bool
 | .ptr _ _=>true
 |_=>false
def Aut(b off:Nat):jq (.ptr b off)=true:=rfl
def U3(x:AV):Bool:=x.strip.inScope 6||jq x
def Awo(h:t.all U3=true)(i:Nat):U3 (Gv t i)=true:=by
 unfold Gv;rw[Jb]
 cases hx:t[i]? with
 |none=>rfl
 |some x=>exact List.all_eq_true.1 h x (Sr hx)
def Bkr(ks:B6)(s:Sm)(l:Ax)(t:Te)(hA:Rq ks s l t)(hok:Ly ks s l t=true)(o:Te)(hs:Hc 104 [Ah t,.int .i64 0,.int .i64 0] (Cf (o,0)))(c:Cn)(hc:Hc 186 [C8 ks s] (Bf (c,0)))(Gf:0<l.length)(Cl:Al c<=20000)(Bg:Qg l.length c)(hty:L3 l c=none):Hc 105 [C8 ks s,.sl .none (l.map Ag),Ah t] (Cf (Cj,6)):=by
 have h1:=dt s hA.s;have hp:=dv s;have h2:=gp ks;have h3:=(Wf t hA.t).1;have h5:=U9 l (fun x=>!Ar x) 185 fun x hx=>gk x (hA.l x hx);rw[Rs]at h5;unfold Ly at hok;simp only[Bb,Aw]at hok;obtain⟨⟨⟨⟨k1,k2⟩,k3⟩,hl⟩,k5⟩:=hok;rw[k2]at h2;rw[k3]at h3;rw[k5]at h5;have hz:¬K9 s=0:=fun h=>by have:=hp.1 h;rw[k1]at this;cases this
 have Qc:(K9 s==0)=false:=by simpa using hz
 have Ci:(l.length:Int)=(ks.length:Int):=Aa;generalize K9 s=z at h1 hz Qc;have hn:¬ks.length=0:=Aa;have hn':¬(ks.length:Int)=0:=Aa;have hn2:¬l.length=0:=Aa;have hkb:=hA.k;refine Hg V7 fun Q hQ=>?_;simp[C8,Ah,Av s,Aq t];refine Ca h1 ?_;simp[hz];refine Ca h2 ?_;simp;refine Ca h3 ?_;simp[hl];refine Ca h5 ?_;simp;refine Ca hs ?_;simp[Cf,Ah,Aq o];refine Ca hc ?_;simp[Bf,Ad,Ap c,hl,hn];refine WL [5] (fun n f h G=>∃(k:Nat) (tok:Dh) (P:Ax) (c:Cn),k<l.length/\k+n=l.length/\P.length=k/\f 70= .int .i64 k/\f 11= .sl tok (P.map Ag)/\owns 6 G tok (P.map Ag) 6/\h 5=Ag c/\Al c<=20000/\Qg (l.length-k) c/\L3 (l.drop k) c=none) (l.length) Ab ⟨0,.nilT,[],c,Gf,Ab,rfl,rfl,rfl,Fp _ _ _,by simp[Fs,Ap c],Cl,Bg,hty⟩ ?_;clear hty Bg Cl hc;rintro n f h G ⟨k,tok,P,c,Af,hk,hP,ik,Fw,Bt,h5v,Cl,Bg,hty⟩ Q2 Aj;simp[ik,Fw,h5v];have Fz:=Ct Af;have hxz:=hA.l l[k] (Cy _);rw[Fz]at hty;obtain⟨x,hx0⟩:∃x,l[k]=x:=⟨_,rfl⟩;rw[hx0]at hxz hty;have hw:=Au (n:=(ks.length:Int)-1) Aa Aa;have Gm:k<ks.length:=Aa;simp[Af,Gm,hx0,Ap x,Ap c,Dx];refine Aad [_,_,_,_,_,_] (G++[_]) (by simp only[Gb,Gx]; rfl) (by simpa using Lv Bt) (by simp[A1]; omega) (Ea _ _ Iq) Ab fun tok' G' Bv Ei=>?_;have hx:=Ei G.length (Ag x) (by simp[Ap x]);rw[Ap x]at hx;have ji:D9 6 (Gn (P.map Ag++[Ag c]))=true:=by rw[show P.map Ag++[Ag c]=(P++[c]).map Ag by simp,Art]; exact Ars 6 _
 rw[Ap c]at ji;clear Ei;by_cases hk1:k+1=l.length
 . rw[A13 x _ c (by simp;omega)]at hty;cases hty
 have Y8:((k:Int)=(ks.length:Int)-1)=False:=eq_false Aa;rw[A12 x _ c (by simp;omega)]at hty;obtain⟨m,hm⟩:∃m,l.length-k=m+1:=⟨l.length-k-1,Aa⟩;rw[hm]at Bg;obtain⟨ho,y,cr,En,hny⟩:=Bg;rw[En]at hty;replace hty:(if(Eg y [x]).2=0 then(L3 (l.drop (k+1)) (Eg y [x]).1).map (c :: ·)else none)=none:=hty;have hys:Al y<=1000000000000:=by have:=Ir c;rw[En]at this;simp only[Bd]at this;omega
 have D4:=o9 y [x] hys (fun z hz=>by simp only[y6]at hz;rw[hz]; exact hxz);have bt:=(ky y [x]).1;have hn2:=fun h=>A1f (n:=m) (l:=[x]) h hny;obtain⟨q,hq⟩:∃q,q=Eg y [x]:=⟨_,rfl⟩;rw[<- hq]at hty D4 bt hn2;clear hq;obtain⟨z,e⟩:=q;simp only at hty bt hn2;have na:c.l.map Ag=Ag y::cr.map Ag:=by rw[En]; rfl
 have ui:=ji;rw[na,Ap y]at ui;have hcll:(c.l.map Ag).length=cr.length+1:=by rw[En]; simp
 simp[Y8,hw,hl];refine Gr (fun b=>decide (b≠5)) [1] Bc Bc ?_;simp[hx,na,Ap y,Dx];refine Da D4 ?_;simp[Bf,Ad,Ap z];refine⟨fun b cs hb hh=>Au1 hb hh,?_⟩;by_cases R9:e=0
 case neg=>
  have he0':(e != 0)=true:=by simpa using R9
  simp[R9];refine Aj (Lr ?_);simp;exact hQ (by simp[Cf,Ah,Km])
 subst R9;rw[Ae rfl]at hty;have hn2:=hn2 rfl;have Acx:L3 (l.drop (k+1)) z=none:=by simpa using hty
 simp[Au (n:=(k:Int)+1) Aa Aa];refine Aj (Fo (n-1) (fun _=>Ag z) (G':=G') (by simp[Ap z]) Aa Ab ?_);exact⟨k+1,tok',P++[c],z,Aa,Aa,by simp[hP],Ab,by simp[Ap c,En,Ap y],by simpa[Ap c]using Bv,rfl,bt,by rw[show l.length-(k+1)=m by omega]; exact hn2,Acx⟩
def Zk(ks:List Kd)(s:Sm)(l:List Cn)(t o:Te)(c:Cn):List HB:=[.var (.sl .none (ks.map Ak)::Bx s),.var [.sl .none (l.map Ag)],.var (Bi t),.var Hy,.var (Bi o),.var (Ag c)]
def PkQ(ks:List Kd)(s:Sm)(l:List Cn)(t o:Te)(ts:List Cn)(x:AX)(u:List AV)(H:List HB):Prop:=
 x= .normal/\u.length=119/\u[4]? =some (.ptr 1 0)/\u[6]? =some (.ptr 3 0)/\u[8]? =some (.ptr 4 0)/\(∃ tok,u[11]? =some (.sl tok (ts.map Ag)))/\u.all U3=true/\∃c L,H=Zk ks s l t o c++L
def mb:Nat->AC->AC
 |0,.seq a _=>a
 |n+1,.seq a b=>.seq a (mb n b)
 |_,c=>c
def Ayt:AC:=mb 8 l8
def Bkt(ks:B6)(s:Sm)(l:Ax)(t:Te)(hA:Rq ks s l t)(hok:Ly ks s l t=true)(o:Te)(hs:Hc 104 [Ah t,.int .i64 0,.int .i64 0] (Cf (o,0)))(c:Cn)(hc:Hc 186 [C8 ks s] (Bf (c,0)))(Gf:0<l.length)(Cl:Al c<=20000)(Bg:Qg l.length c)(hlm:l.length<=1000)(ts:Ax)(hty:L3 l c=some ts)(Q:Co)(hQ:∀x u H,PkQ ks s l t o ts x u H->Q x u H):
 WP Tryz.prog Ayt [] Q (start [C8 ks s,.sl .none (l.map Ag),Ah t] 119) []:=by
 have h1:=dt s hA.s;have hp:=dv s;have h2:=gp ks;have h3:=(Wf t hA.t).1;have h5:=U9 l (fun x=>!Ar x) 185 fun x hx=>gk x (hA.l x hx);rw[Rs]at h5;unfold Ly at hok;simp only[Bb,Aw]at hok;obtain⟨⟨⟨⟨k1,k2⟩,k3⟩,hl⟩,k5⟩:=hok;rw[k2]at h2;rw[k3]at h3;rw[k5]at h5;have hz:¬K9 s=0:=fun h=>by have:=hp.1 h;rw[k1]at this;cases this
 have Qc:(K9 s==0)=false:=by simpa using hz
 have Ci:(l.length:Int)=(ks.length:Int):=Aa;generalize K9 s=z at h1 hz Qc;have hn:¬ks.length=0:=Aa;have hn':¬(ks.length:Int)=0:=Aa;have hn2:¬l.length=0:=Aa;have hkb:=hA.k;simp[Ayt,mb,C8,Ah,Av s,Aq t];refine Ca h1 ?_;simp[hz];refine Ca h2 ?_;simp;refine Ca h3 ?_;simp[hl];refine Ca h5 ?_;simp;refine Ca hs ?_;simp[Cf,Ah,Aq o];refine Ca hc ?_;simp[Bf,Ad,Ap c,hl,hn];refine WL [5] (fun n f h G=>∃(k:Nat) (tok:Dh) (P:Ax) (c:Cn),k<l.length/\k+n=l.length/\P.length=k/\f 70= .int .i64 k/\f 11= .sl tok (P.map Ag)/\owns 6 G tok (P.map Ag) 6/\h 5=Ag c/\Al c<=20000/\Qg (l.length-k) c/\(∃ r,L3 (l.drop k) c=some r/\P++r=ts)/\∀i,U3 (f i)=true) (l.length) Ab ⟨0,.nilT,[],c,Gf,Ab,rfl,rfl,rfl,Fp _ _ _,by simp[Fs,Ap c],Cl,Bg,⟨ts,hty,rfl⟩,Awo (by simp[U3,jq])⟩ ?_;clear hty Bg Cl hc;rintro n f h G ⟨k,tok,P,c,Af,hk,hP,ik,Fw,Bt,h5v,Cl,Bg,⟨r,hty,hPr⟩,Ky⟩ Q2 Aj;have At4:∀i,(f i).strip.inScope 6=true\/jq (f i)=true:=fun i=>by simpa[U3]using Ky i
 simp[ik,Fw,h5v];have Fz:=Ct Af;have hxz:=hA.l l[k] (Cy _);rw[Fz]at hty;obtain⟨x,hx0⟩:∃x,l[k]=x:=⟨_,rfl⟩;rw[hx0]at hxz hty;have hw:=Au (n:=(ks.length:Int)-1) Aa Aa;have Gm:k<ks.length:=Aa;simp[Af,Gm,hx0,Ap x,Ap c,Dx];refine Aad [_,_,_,_,_,_] (G++[_]) (by simp only[Gb,Gx]; rfl) (by simpa using Lv Bt) (by simp[A1]; omega) (Ea _ _ Iq) Ab fun tok' G' Bv Ei=>?_;have hx:=Ei G.length (Ag x) (by simp[Ap x]);rw[Ap x]at hx;have ji:D9 6 (Gn (P.map Ag++[Ag c]))=true:=by rw[show P.map Ag++[Ag c]=(P++[c]).map Ag by simp,Art]; exact Ars 6 _
 rw[Ap c]at ji;clear Ei;by_cases hk1:k+1=l.length
 . have Y8:((k:Int)=(ks.length:Int)-1)=True:=eq_true Aa;rw[A13 x _ c (by simp;omega)]at hty;simp only[Ay]at hty;subst hty;simp[Y8,hw,hl];refine Aj (Lx ?_);simp;refine hQ _ _ _ ⟨rfl,rfl,rfl,rfl,rfl,⟨tok',by simp[<- hPr,Ap c]⟩,?_,c,G',by simp[Zk,Hy,Av s,Aq t,Aq o,Ap c]⟩;simp[U3,Aut,At4,ji]
 have Y8:((k:Int)=(ks.length:Int)-1)=False:=eq_false Aa;rw[A12 x _ c (by simp;omega)]at hty;obtain⟨m,hm⟩:∃m,l.length-k=m+1:=⟨l.length-k-1,Aa⟩;rw[hm]at Bg;obtain⟨ho,y,cr,En,hny⟩:=Bg;rw[En]at hty;replace hty:(if(Eg y [x]).2=0 then(L3 (l.drop (k+1)) (Eg y [x]).1).map (c :: ·)else none)=some r:=hty;have hys:Al y<=1000000000000:=by have:=Ir c;rw[En]at this;simp only[Bd]at this;omega
 have D4:=o9 y [x] hys (fun z hz=>by simp only[y6]at hz;rw[hz]; exact hxz);have bt:=(ky y [x]).1;have hn2:=fun h=>A1f (n:=m) (l:=[x]) h hny;obtain⟨q,hq⟩:∃q,q=Eg y [x]:=⟨_,rfl⟩;rw[<- hq]at hty D4 bt hn2;clear hq;obtain⟨z,e⟩:=q;simp only at hty bt hn2;have na:c.l.map Ag=Ag y::cr.map Ag:=by rw[En]; rfl
 have ui:=ji;rw[na,Ap y]at ui;have hcll:(c.l.map Ag).length=cr.length+1:=by rw[En]; simp
 simp[Y8,hw,hl];refine Gr (fun b=>decide (b≠5)) [1] Bc Bc ?_;simp[hx,na,Ap y,Dx];refine Da D4 ?_;simp[Bf,Ad,Ap z];refine⟨fun b cs hb hh=>Au1 hb hh,?_⟩;by_cases R9:e=0
 case neg=>
  rw[Ac R9]at hty;cases hty
 subst R9;rw[Ae rfl]at hty;have hn2:=hn2 rfl;simp only[Ef]at hty;obtain⟨r2,Acx,Tb⟩:=hty;subst Tb;simp[Au (n:=(k:Int)+1) Aa Aa];refine Aj (Fo (n-1) (fun _=>Ag z) (G':=G') (by simp[Ap z]) Aa Ab ?_);exact⟨k+1,tok',P++[c],z,Aa,Aa,by simp[hP],Ab,by simp[Ap c,En,Ap y],by simpa[Ap c]using Bv,rfl,bt,by rw[show l.length-(k+1)=m by omega]; exact hn2,⟨r2,Acx,by simpa using hPr⟩,Awo (by simp[U3,Aut,At4,ui])⟩
end
def Hz.seq{n:Nat}{x y:AC}(h:Hz P ro n x t H (Zo (fun t' H'=>Hz P ro n y t' H' Q) Q)):Hz P ro n (.seq x y) t H Q:=by
 intro c hc F g w a hs;obtain⟨ca,cb,rfl,c1,c2⟩:=si hc;refine wpIn_seq (wpIn_mono (h _ c1 F g w a hs) ?_);rintro e a' w' ⟨x,t',H',F',g',rfl,hq,Cv,hx⟩
 cases x with
 |normal=>
  simp only[AX.to,Exit.then];refine wpIn_mono (hq _ c2 F' g' w' a' Cv) ?_;rintro e2 a2 w2 ⟨x2,t2,H2,F2,g2,rfl,q1,q2,q3⟩
  exact⟨x2,t2,H2,F2,g2,rfl,q1,q2,hx.trans q3⟩
 |exit id=>exact⟨.exit id,t',H',F',g',rfl,hq,Cv,hx⟩
 |ret=>exact⟨.ret,t',H',F',g',rfl,hq,Cv,hx⟩
def Hz.regR{n:Nat}{ops:B8}(h:I1 P ops [] (fun _ t' H'=>Q .normal t' H') t H):Hz P ro n (.region ops) t H Q:=Hz.region (Sw h)
def Hz.seqR{n:Nat}{ops:B8}{y:AC}(h:I1 P ops [] (fun _ t' H'=>Hz P ro n y t' H' Q) t H):Hz P ro n (.seq (.region ops) y) t H Q:=Hz.seq (Hz.regR h)
def Xi{u:Ao}{i:Nat}{x:AV}(h:u[i]? =some x):∀h',u[i]'h'=x:=fun h'=>by
 rw[Il h']at h;exact ez h
def Rm(x:AV):AV:=if x.strip.inScope 6=true then x.strip else .eptr []
def Bsq(x:AV):(Rm x).inScope 6=true:=by
 unfold Rm;split
 . assumption
 rfl
def wkV_R{F:Addr->Prop}{g:Gh}{w:World}{x:AV}{v:Value}(hx:U3 x=true)(h:R F g w x v):R F g w (Rm x) v:=by
 unfold Rm;split
 . exact Ww x v h
 rename_i hn;have hp:jq x=true:=by simpa[U3,hn]using hx
 cases x<;>simp only[jq,Dp]at hp
 obtain⟨B,_,_,rfl⟩:=Nm h;simp only[R];exact⟨B,_,rfl,trivial⟩
def A2u{F:Addr->Prop}{g:Gh}{w:World} :∀{t:List AV} {vs:List Value},t.all U3=true->RL F g w t vs->RL F g w (t.map Rm) vs
 | [],vs,_,h=>h
 |x::t,vs,hx,h=>by
  simp only[Er,Bb]at hx;simp only[RL]at h;obtain⟨v,r,rfl,h1,h2⟩:=h;simp only[F8,RL];exact⟨v,r,rfl,wkV_R hx.1 h1,A2u hx.2 h2⟩
def A2v(n:Nat)(t:Ao)(hn:n=6):A0 n (t.map Rm)=true:=by
 subst hn
 induction t with
 |nil=>rfl
 |cons x t ih=>simp only[F8,A0,Bsq,ih,xy]
def pkB:AC:=.region [⟨some 98,.mov (.tmp 11),none⟩,⟨some 99,.call (.cst (.fn (.func 187) [] [])) [.tmp 98],none⟩]
def pkAs:AC:=.seq (.region [⟨(some 14),(.mov (.tmp 100)),none⟩])
 (.region [⟨(some 15),(.alloc [(.int .i64 0),(.int .i64 0),(.str []),(.sl .nilT []),(.sl .nilT []),(.sl .nilT [])]),none⟩,⟨none,(.store 6 (.tmp 15) (.tmp 101)),none⟩])
def pkBd:AC:=(.seq (.region [⟨(some 103),(.load false 1 (.tmp 4)),none⟩,⟨(some 104),(.mov (.tmp 14)),none⟩,⟨(some 105),(.iaddr 6 (.tmp 103) (.tmp 104)),none⟩,⟨(some 106),(.load true 6 (.tmp 105)),none⟩,⟨(some 107),(.call (.cst (.fn (.func 134) [] [])) [(.tmp 106),(.cst (.int .i64 0)),(.cst (.int .i64 0))]),none⟩,⟨(some 102),(.mov (.tmp 107)),none⟩,⟨(some 108),(.extract (.tmp 102) 0),none⟩,⟨(some 109),(.extract (.tmp 102) 1),none⟩,⟨(some 16),(.alloc [(.int .i64 0),(.int .i64 0),(.str []),(.sl .nilT []),(.sl .nilT []),(.sl .nilT [])]),none⟩,⟨none,(.store 6 (.tmp 16) (.tmp 108)),none⟩,⟨(some 17),(.mov (.tmp 109)),none⟩])
    (.region [⟨(some 110),(.load true 6 (.tmp 16)),none⟩,⟨(some 111),(.load true 6 (.tmp 15)),none⟩,⟨(some 112),(.load true 18 (.tmp 8)),none⟩,⟨(some 113),(.buildSl 18 [(.int .i64 0),(.int .i64 0),(.str []),(.int .i64 0),(.int .i64 0),(.str []),(.sl .nilT []),(.sl .nilT []),(.sl .nilT []),(.int .i64 0),(.int .i64 0),(.str []),(.sl .nilT []),(.sl .nilT []),(.sl .nilT []),(.sl .nilT []),(.sl .nilT []),(.sl .nilT [])] 1 [(0,(.tmp 112))]),none⟩,⟨(some 114),(.build [(.int .i64 0),(.int .i64 0),(.str []),(.int .i64 0),(.int .i64 0),(.str []),(.sl .nilT []),(.sl .nilT []),(.sl .nilT []),(.int .i64 0),(.int .i64 0),(.str []),(.sl .nilT []),(.sl .nilT []),(.sl .nilT []),(.sl .nilT []),(.sl .nilT []),(.sl .nilT [])] [(0,(1,(.cst (.int .i64 8)))),(3,(6,(.tmp 110))),(9,(6,(.tmp 111))),(17,(1,(.tmp 113)))]),none⟩,⟨none,(.store 18 (.tmp 8) (.tmp 114)),none⟩]))
def Aes:List AO:=[⟨some 115,.load true 18 (.tmp 8),none⟩,⟨some 116,.call (.cst (.fn (.func 67) [] [])) [.tmp 115],none⟩,⟨some 117,.extract (.tmp 116) 0,none⟩,⟨some 118,.extract (.tmp 116) 1,none⟩,⟨none,.store 18 (.tmp 6) (.tmp 117),none⟩,⟨some 7,.mov (.tmp 118),none⟩]
def Eb(ks:List Kd)(s:Sm)(l:List Cn)(t r o:Te)(c:Cn):List HB:=[.var (.sl .none (ks.map Ak)::Bx s),.var [.sl .none (l.map Ag)],.var (Bi t),.var (Bi r),.var (Bi o),.var (Ag c)]
def wm(n:Nat)(ks:B6)(s:Sm)(l:Ax)(t r o:Te)(c:Cn):Be n (Eb ks s l t r o c)=true:=by simp[Eb,Be,A0,AV.inScope]
def Ays(ks:B6)(s:Sm)(l:Ax)(t o:Te)(c:Cn):(Zk ks s l t o c).map Qj=Eb ks s l t Cj o c:=by
 simp[Zk,Eb,Qj,Ce,AV.strip,Km,Hy]
def Bpb(ts:Ax)(ks:B6)(s:Sm)(l:Ax)(t r o:Te)(c:Cn):HP 187 [.sl .none (ts.map Ag)] (Eb ks s l t r o c) (.fn (.func 257) [] [.ptr 6 0]) (Eb ks s l t r o c++[.var [.sl .none (ts.map Ag)]]):=by
 have A8:=wm 7 ks s l t r o c;refine Hg Bin fun Q hQ=>?_;have h6:(Eb ks s l t r o c).length=6:=rfl;simp[h6];exact hQ (by simp[h6,Nh,A8])
def Bm8(ts:Ax)(ks:B6)(s:Sm)(l:Ax)(t r o:Te)(c:Cn)(u:Ao)(hl:u.length=119)(Fw:u[11]? =some (.sl .none (ts.map Ag))):
 A9 Tryz.prog pkB u (Eb ks s l t r o c) (fun x u' H=>x= .normal/\u'=(u.set 98 (.sl .none (ts.map Ag))).set 99 (.fn (.func 257) [] [.ptr 6 0])/\H=Eb ks s l t r o c++[.var [.sl .none (ts.map Ag)]]):=by
 refine Ru fun Q hQ=>?_;have g11:=Xi Fw;simp[pkB,g11,hl];refine C1 (Bpb ts ks s l t r o c) ?_;simp;refine hQ ?_;simp
def Bm4{n:Nat}(ks:B6)(s:Sm)(l:Ax)(t r o:Te)(c x:Cn)(i:Int)(u:Ao)(hl:u.length=119)(h1:u[100]? =some (.int .i64 i))(h2:u[101]? =some (Ad x)):
 Hz Tryz.prog ro n pkAs u (Eb ks s l t r o c) (fun y u' H=>y= .normal/\u'=(u.set 14 (.int .i64 i)).set 15 (.ptr 6 0)/\H=Eb ks s l t r o c++[.var (Ag x)]):=by
 have g1:=Xi h1;have g2:=Xi h2;refine Hz.seqR ?_;simp[g1,hl];refine Hz.regR ?_;simp[g2,hl,Ad,Ap x,Eb]
def k7(x y:Cn)(o:Te):Te:=.mk 8 0 [] x y (.mk []) [] [o]
def Bm5{n:Nat}(ks:B6)(s:Sm)(l:Ax)(t r o:Te)(c x:Cn)(i:Nat)(hi:i<l.length)(hz:∀y∈l,Al y<=1000000000000)(u:Ao)(hl:u.length=119)(h4:u[4]? =some (.ptr 1 0))(h8:u[8]? =some (.ptr 4 0))(h14:u[14]? =some (.int .i64 i))(h15:u[15]? =some (.eptr (Ag x))):
 Hz Tryz.prog ro n pkBd u (Eb ks s l t r o c) (fun y _ H=>y= .normal/\∃cs L,H=[.var (.sl .none (ks.map Ak)::Bx s),.var [.sl .none (l.map Ag)],.var (Bi t),.var (Bi r),.var cs,.var (Ag c)]++L/\Ce cs=Bi (k7 (Ed l[i] 0 0).1 x o)):=by
 have Br:=Zp l[i] 0 0 (hz _ (Cy _)) Aa Aa Aa Aa;generalize Ed l[i] 0 0=p at Br ⊢;obtain⟨y,e⟩:=p;have g4:=Xi h4;have g8:=Xi h8;have g14:=Xi h14;have g15:=Xi h15;refine Hz.seqR ?_;simp[g4,g14,hl,Eb,hi];refine Ca Br ?_;simp[Bf,Ad,Ap y,hl];refine Hz.regR ?_;simp[g8,g15,hl,Ap x,Aq o,Dx,k7,Va];exact⟨rfl,rfl⟩
def Bqx{x y:Cn}{o:Te}(h1:Al x<=20000)(h2:Al y<=20000)(h3:Dg o):Dg (k7 x y o):=by
 rw[We];refine⟨by show Al x<=_;omega,by show Al y<=_;omega,fun z hz=>?_⟩;have hz:z ∈ [o]:=hz;rw[List.mem_singleton.1 hz]; exact h3
def Bm7(ks:B6)(s:Sm)(l:Ax)(t r o:Te)(c:Cn)(ho:Dg o)(u:Ao)(hl:u.length=119)(h6:u[6]? =some (.ptr 3 0))(h8:u[8]? =some (.ptr 4 0)):
 Jc Tryz.prog Aes u (Eb ks s l t r o c) (fun u' H=>u'.getD 6 .undef= .ptr 3 0/\u'.getD 7 .undef= .int .i64 (N3 o).2/\H=Eb ks s l t (N3 o).1 o c):=by
 have g6:=Xi h6;have g8:=Xi h8;have hw:=A8k o ho;generalize N3 o=p at hw ⊢;obtain⟨z,e⟩:=p;refine Sw ?_;show I1 _ _ [] (fun _ u' H=>u'.getD 6 .undef= .ptr 3 0/\u'.getD 7 .undef= .int .i64 e/\H=Eb ks s l t z o c) _ _;simp[Aes,g8,hl,Eb,Aq o];refine Ca hw ?_;simp[Cf,Ah,Aq z,g6,hl,Aq r]
def Afc:Nat->Code->Code
 |0,.seq _ b=>b
 |n+1,.seq _ b=>Afc n b
 |_,c=>c
def uw:Nat->AC->Bool
 |0,.seq _ _=>true
 |n+1,.seq _ b=>uw n b
 |_,_=>false
def Arn{P:Program}(hm:P.follows .mixedOrders=true){m:Nat} :∀(n:Nat) (c:Code) (ac:AC),Du P c=some ac->uw n ac=true->∀(Q:AX->Ao->Ai->Prop) (t:Ao) (H:Ai),Ot P (mb n ac) Q t H->∀(F:Addr->Prop) (g:Gh) (w:World) (a:Act),Gk P F g H w t a->
 ∀(QQ:Exit->Act->World->Prop),(∀ x t' H' F' g' a' w',Q x t' H'->Gk P F' g' H' w' t' a'->Bn F g H w F' g' H' w'->x= .normal/\(Afc n c).wpIn Fence.wide m P QQ a' w')->c.wpIn Fence.wide m P QQ a w
 |0,c,ac,hc,hsq,Q,t,H,h,F,g,w,a,hs,QQ,hK=>by
  cases ac<;>simp only[uw,Dp]at hsq
  obtain⟨ca,cb,rfl,c1,c2⟩:=si hc;refine wpIn_seq (wpIn_mono (wpIn_wide.2 ((A9.of hm h).det ca c1 F g w a hs)) ?_);rintro e a' w' ⟨x,t',H',F',g',rfl,hq,Cv,hx⟩;obtain⟨rfl,hk⟩:=hK x t' H' F' g' a' w' hq Cv hx
  exact hk
 |n+1,c,ac,hc,hsq,Q,t,H,h,F,g,w,a,hs,QQ,hK=>by
  cases ac<;>simp only[uw,Dp]at hsq
  rename_i x y;obtain⟨ca,cb,rfl,c1,c2⟩:=si hc;have h:Ot P x (Zo (fun t' H'=>Ot P (mb n y) Q t' H') Q) t H:=h;refine wpIn_seq (wpIn_mono (wpIn_wide.2 ((A9.of hm h).det ca c1 F g w a hs)) ?_);rintro e a' w' ⟨x,t',H',F',g',rfl,hq,Cv,hx⟩
  cases x with
  |normal=>
   simp only[AX.to,Exit.then]
   exact Arn hm n cb y c2 hsq Q t' H' hq F' g' w' a' Cv QQ fun x2 t2 H2 F2 g2 a2 w2 q1 q2 q3=>hK x2 t2 H2 F2 g2 a2 w2 q1 q2 (hx.trans q3)
  |exit id=>exact absurd (hK _ t' H' F' g' a' w' hq Cv hx).1 Ab
  |ret=>exact absurd (hK _ t' H' F' g' a' w' hq Cv hx).1 Ab
def Bm6:∃(fn:Func) (cc b asg bdy tl:Code),Tryz.prog.funcs[105]? =some fn/\fn.body=some cc/\Du Tryz.prog cc=some l8/\Afc 8 cc= .seq (.seq b (.block 2 (.rangeFunc (.tmp 99) #[100,101] asg (.block 3 bdy)))) (.seq tl .ret)/\
 Du Tryz.prog b=some pkB/\Du Tryz.prog asg=some pkAs/\Du Tryz.prog bdy=some pkBd/\Du Tryz.prog tl=some (.region Aes)/\fn.ntmps=119/\Qt Tryz.prog fn.results.toList=some [.cell 6 true 18,.tmp 7]:=
 ⟨Tryz.f105,_,_,_,_,_,Tryz.func105,rfl,A5,rfl,A5,A5,A5,A5,A5,A5⟩
section
open Go.RowKit
section
variable {F:Addr->Prop} {g:Gh} {w:World}
def Azp{B:Nat} :∀(l:List Cn) (off:Nat),RE F g w B off 6 (l.map Ag)->∃ds:List V6,ds.length=l.length/\∀i c,l[i]? =some c->∃x,ds[i]? =some x/\RL F g w (Ag c) (Fl x)/\∀j u,(Fl x)[j]? =some u->F ⟨B,off+i*6+j,none⟩/\w.cell? ⟨B,off+i*6+j,none⟩=some u
 | [],_,_=>⟨[],rfl,fun i c h=>by simp at h⟩
 |c::l,off,h=>by
  simp only[F8,RE]at h;obtain⟨_,h1,h2⟩:=h;obtain⟨ds,e1,e2⟩:=Azp l (off+6) h2;rw[Ap]at h1;simp only[RM]at h1;obtain⟨⟨_,v0,k0,c0,r0⟩,⟨_,v1,k1,c1,r1⟩,⟨_,v2,k2,c2,r2⟩,⟨_,v3,k3,c3,r3⟩,⟨_,v4,k4,c4,r4⟩,⟨_,v5,k5,c5,r5⟩, -⟩:=h1;refine⟨⟨v0,v1,v2,v3,v4,v5,vy r0,vy r1,Axi r2,j8 r3,j8 r4,j8 r5⟩::ds,by simp[e1],fun i c' hi=>?_⟩
  cases i with
  |zero=>
   simp only[Tt,Ay]at hi;subst hi;refine⟨_,rfl,?_,fun j u hj=>?_⟩
   . rw[Ap];exact⟨_,_,rfl,r0,_,_,rfl,r1,_,_,rfl,r2,_,_,rfl,r3,_,_,rfl,r4,_,_,rfl,r5,rfl⟩
   match j,hj with
   |0,hj=>cases hj;exact⟨by simpa using k0,by simpa using c0⟩
   |1,hj=>cases hj;exact⟨by simpa using k1,by simpa using c1⟩
   |2,hj=>cases hj;exact⟨by simpa using k2,by simpa using c2⟩
   |3,hj=>cases hj;exact⟨by simpa using k3,by simpa using c3⟩
   |4,hj=>cases hj;exact⟨by simpa using k4,by simpa using c4⟩
   |5,hj=>cases hj;exact⟨by simpa using k5,by simpa using c5⟩
   |j+6,hj=>simp[Fl]at hj
  |succ i=>
   obtain⟨x,q1,q2,q3⟩:=e2 i c' (by simpa using hi);refine⟨x,by simpa using q1,q2,fun j u hj=>?_⟩;have:=q3 j u hj;rwa [show off+6+i*6+j=off+(i+1)*6+j by omega]at this
end
def A44(ts:Ax)(Gf:0<ts.length)(B5:ts.length<=1073741824)(FS:Addr->Prop)(g:Gh)(w:World)(B:Nat)(hFS:∀a,FS a->a.block<w.heap.size)(sv:Value)(hB:FS ⟨B,0,none⟩)(hc:w.cell? ⟨B,0,none⟩=some sv)(hr:R FS g w (.sl .none (ts.map Ag)) sv):
 ∃zs:Fin ts.length->Value,(∀ x:Fin ts.length,R FS g w (Ad ts[x.val]) (zs x))/\SeqStopsK Fence.wide 2 Tryz.prog 257 #[.pointer (some ⟨B,0,none⟩)] (fun x:Fin ts.length=>#[.int .i64 x.val,zs x]) (fun W W'=>∀a,FS a->W'.cell? a=W.cell? a)
  (fun xs=>xs.map (fun x=>x.val)=(List.range ts.length).reverse) (fun _=>True) ts.length w:=by
 obtain⟨_,h⟩:=L7 hr;rcases h with⟨h1,_⟩|⟨b,off,sp,cap,k,rfl,h2,⟨hk,h1|rfl⟩,h3,_⟩
 . have:ts=[]:=by simpa using h1
   subst this;simp at Gf
 . have:ts=[]:=by simpa using h1
   subst this;simp at Gf
 have hk6:k=6:=by
  cases ts with
  |nil=>simp at Gf
  |cons c l=>simp only[F8,RE]at h3;simpa using h3.1.symm
 subst hk6;obtain⟨ds,hd,hds⟩:=Azp ts off h3;let z:Nat->V6:=fun k=>ds.getD k default
 have hz:∀k (hk:k<ts.length),RL FS g w (Ag ts[k]) (Fl (z k))/\∀j u,(Fl (z k))[j]? =some u->FS ⟨b,off+k*6+j,none⟩/\w.cell? ⟨b,off+k*6+j,none⟩=some u:=fun k hk=>by
  obtain⟨x,e1,e2,e3⟩:=hds k ts[k] (by simp[hk]);have:z k=x:=by show ds.getD k default=x;rw[Jb,e1]; rfl
  rw[this]; exact⟨e2,e3⟩
 let el:Nat->Fin ts.length:=fun k=>⟨k%ts.length,Nat.mod_lt _ Gf⟩;have Uj:∀k,k<ts.length->(el k).val=k:=fun k hk=>Nat.mod_eq_of_lt hk;refine⟨fun x=>.agg #[(z x.val).a,(z x.val).b,(z x.val).c,(z x.val).d,(z x.val).e,(z x.val).f],fun x=>?_,?_⟩
 . simp only[Ad,R];exact⟨_,rfl,(hz x.val x.isLt).1⟩
 intro l J Jx W hW _ _ hY h0;have Ih:∀a,FS a->W.cell? a=w.cell? a:=fun a ha=>Oa (hW.block _ (hFS a ha));have P5:=(Ih _ hB).trans hc;simp only[Qo]at P5 h2
 refine(A47 (fun x:Fin ts.length=>#[.int .i64 x.val,.agg #[(z x.val).a,(z x.val).b,(z x.val).c,(z x.val).d,(z x.val).e,(z x.val).f]]) el z (fun W W'=>∀a,FS a->W'.cell? a=W.cell? a) Fence.wide 2 trivial rfl Aa l B b off ts.length cap B5
  (fun k hk=>by simp only[Uj k hk]) (fun W W' h=>h _ hB) (fun W W' k i hk hi h=>h _ ?_) J Jx hY W P5 (fun j i u hj hu=>?_) h0).mono ?_
 . obtain⟨u,hu⟩:∃u,(Fl (z k))[i]? =some u:=⟨_,Il (by rw[mj]; exact hi)⟩;exact((hz k hk).2 i u hu).1
 . have:=(hz j hj).2 i u hu;rw[Ih _ this.1]; exact this.2
 rintro e W' ⟨he,⟨ys,rfl,hj⟩|⟨Bz,hj⟩⟩
 . refine⟨he,.inl ⟨_,?_,hj⟩⟩;apply List.ext_getElem
   . simp[Pz]
   intro i h1 h2;have hi:i<ts.length:=by simpa[Pz]using h1
   simp only[Pz,yq,List.getElem_map,List.getElem_range,Function.comp,List.getElem_reverse,List.length_range];rw[Uj _ Aa]
 exact⟨he,.inr ⟨Bz,trivial,hj⟩⟩
def A9d(x:Array Value)(v u:Value):((#[100,101]:Array Tmp).zip #[v,u]).foldl (fun t (p,v)=>t.setIfInBounds p v) x=(x.setIfInBounds 100 v).setIfInBounds 101 u:=by
 simp
def Ml(l ts:List Cn)(is:List Nat)(o:Te):Te:=is.foldl (fun o i=>k7 (Ed (l.getD i A3) 0 0).1 (ts.getD i A3) o) o
def Bm3(l ts:Ax)(is:Ck)(i:Nat)(o:Te):Ml l ts (is ++[i]) o=k7 (Ed (l.getD i A3) 0 0).1 (ts.getD i A3) (Ml l ts is o):=by simp[Ml]
def Aer(l ts:List Cn)(hts:∀x∈ts,Al x<=20000):∀(is:List Nat) (o:Te),Dg o->Dg (Ml l ts is o)
 | [],_,h=>h
 |i::is,o,h=>by
  show Dg (Ml l ts is (k7 (Ed (l.getD i A3) 0 0).1 (ts.getD i A3) o));refine Aer l ts hts is _ (Bqx oq ?_ h);rw[Jb]
  cases hx:ts[i]? with
  |none=>show Al A3<=_;decide
  |some x=>exact hts x (Sr hx)
def di(ks:B6)(s:Sm)(l:Ax)(t r o:Te)(c:Cn):jy (Eb ks s l t r o c):=by
 intro b m h
 match b,h with
 |0,h=>cases h
 |1,h=>cases h
 |2,h=>cases h
 |3,h=>cases h
 |4,h=>cases h
 |5,h=>cases h
 |b+6,h=>simp[Eb]at h
def Aeq(ks:B6)(s:Sm)(l:Ax)(t r o:Te)(c:Cn){b:Nat}(h:b<6):∃cs,(Eb ks s l t r o c)[b]? =some (.var cs):=by
 match b,h with
 |0,_=>exact⟨_,rfl⟩
 |1,_=>exact⟨_,rfl⟩
 |2,_=>exact⟨_,rfl⟩
 |3,_=>exact⟨_,rfl⟩
 |4,_=>exact⟨_,rfl⟩
 |5,_=>exact⟨_,rfl⟩
def wl(ks:B6)(s:Sm)(l:Ax)(t r o:Te)(c:Cn){b:Nat}{x:HB}(h:(Eb ks s l t r o c)[b]? =some x):∃cs,x= .var cs:=by
 rcases E8 b 6 with hb|hb
 . obtain⟨cs,B7⟩:=Aeq ks s l t r o c hb;rw[h]at B7;cases B7;exact⟨cs,rfl⟩
 rw[Im (by simpa[Eb]using hb)]at h;cases h
def oe{F:Addr->Prop}{g:Gh}{w:World}{ks:B6}{s:Sm}{l:Ax}{t r o:Te}{c:Cn}(hs:St F g (Eb ks s l t r o c) w):∀b,g.tk b=none:=by
 intro b;rcases E8 b 6 with h|h
 . obtain⟨cs,B7⟩:=Aeq ks s l t r o c h;obtain⟨_,_,_,_,h2,_⟩:=hs.var b cs B7;exact h2
 exact(hs.beyond b (by simpa[Eb]using h)).2
def Ayu{F:Addr->Prop}{g:Gh}{w:World}{ks:B6}{s:Sm}{l:Ax}{t r o:Te}{c:Cn}(hs:St F g (Eb ks s l t r o c) w){b:Nat}(h:b<6):∃B,g.blk b=some B/\∀off,¬F ⟨B,off,none⟩:=by
 obtain⟨cs,B7⟩:=Aeq ks s l t r o c h;obtain⟨B,_,_,h1,_,_,_,h5⟩:=hs.var b cs B7;exact⟨B,h1,h5⟩
def Bm1(ks:B6)(s:Sm)(l:Ax)(t o:Te)(c:Cn):Be (Zk ks s l t o c).length (Zk ks s l t o c)=true:=by simp[Zk,Be,A0,AV.inScope,Hy]
end
section
open Go.RowKit
def dq{n:Nat} :∀{v:List AV} {i:Nat} {x:AV},A0 n v=true->x.inScope n=true->A0 n (v.set i x)=true
 | [],_,_,h,_=>h
 |y::v,i,x,h,hx=>by
  simp only[A0,Bb]at h
  cases i with
  |zero=>simp only[Ahb,A0,hx,h.2,xy]
  |succ i=>simp only[y9,A0,h.1,dq h.2 hx,xy]
def Bax(P:Program)(Q:Co):kq P [] Q=Q:=by funext x t H;rfl
def Bku(ks:B6)(s:Sm)(l:Ax)(t:Te)(hA:Rq ks s l t)(hok:Ly ks s l t=true)(o:Te)(Br:Hc 104 [Ah t,.int .i64 0,.int .i64 0] (Cf (o,0)))(c:Cn)(hc:Hc 186 [C8 ks s] (Bf (c,0)))
 (Gf:0<l.length) (Cl:Al c<=20000) (Bg:Qg l.length c) (hlm:l.length<=1000) (ts:Ax) (hty:L3 l c=some ts) (ho:Dg o):
 Hc 105 [C8 ks s,.sl .none (l.map Ag),Ah t] (Cf (N3 (Ml l ts (List.range ts.length).reverse o))):=by
 have Xn:Qw Tryz.prog 105=true:=A5;have Nt:=A11 _ _ _ hty;have M8:=Af7 _ _ _ hty Cl;have je:=Bkt ks s l t hA hok o Br c hc Gf Cl Bg hlm ts hty (PkQ ks s l t o ts) (fun _ _ _ h=>h);unfold WP at je;rw[Bax]at je;have Kc:=hA.l;clear Bg Cl hc Br hok hA;refine⟨Xn,fun F g w vs hG hs hr=>?_⟩;obtain⟨fn,cc,b,asg,bdy,tl,hfn,Acd,cC,hrest,cB,cAs,cBd,cT,hnt,Hr⟩:=Bm6;have Ij:=hs.cells;have Xq:=Pu _ _ hr;have an:=hG.cells;have hF0:∀x,Fc F w x->(w.cell? x).isSome=true:=fun x h=>h.2
 suffices key:CallsIn Fence.wide 3 Tryz.prog 105 vs.toArray w fun e w'=>∃v F' g',e= .returned v/\R F' g' w' (Cf (N3 (Ml l ts (List.range ts.length).reverse o))) v/\St F' g' [] w'/\Bn (Fc F w) g [] w F' g' [] w' by
  refine(callsIn_wide.1 key).mono ?_;rintro e w' ⟨v,F',g',rfl,hv,Cv,hx⟩;have hfr:∀B,B<w.heap.size->w'.heap[B]? =w.heap[B]?:=fun B hB=>hx.frame B hB fun b hb=>absurd hb (Jr b)
  refine⟨v,fun a=>F' a\/F a,g',rfl,R.mono ⟨fun _ h=>.inl h,fun _ _=>rfl,Gh.le_refl _⟩ _ _ hv,
   ⟨fun a ha=>?_,Cv.beyond,Cv.inj,fun b cs h=>(by simp at h),fun t n k ty h=>(by simp at h),fun b off s ha=>?_,fun b e cs h=>(by simp at h),fun b ks h=>(by simp at h)⟩,
   ⟨fun _ h=>.inr h,fun a ha=>Oa (hfr _ (hs.live a ha)),hx.gh,hx.size,fun B hB _=>hfr B hB,fun a ha=>?_,fun b B hb _=>absurd hb (Jr b),Bm _,hx.io⟩⟩
  . rcases ha with ha|ha
    . exact Cv.live a ha
    exact Qp (hs.live a ha) hx.size
  . rcases ha with ha|ha
    . exact Cv.spots b off s ha
    exact hs.spots b off s ha
  rcases ha with ha|ha
  . rcases hx.new a ha with h|h|⟨t,ht,_⟩
    . exact .inl h.1
    . exact .inr (.inl h)
    exact absurd ht (Jr t)
  exact .inl ha
 have hlen:=H5 hr
 have sim0:Gk Tryz.prog (Fc F w) g [] w (start [C8 ks s,.sl .none (l.map Ag),Ah t] 119) {tmps:=vs.toArray++Array.replicate (119-vs.toArray.size) undef,defers:=[]}:=by
  refine⟨Ij,?_,rfl,an⟩;show RL (Fc F w) g w _ _;simp only[start,Wi,Zr,Tu,hlen];exact Ld Xq (Wr Hk _)
 refine callsIn_of_wp_marks hfn Acd trivial ?_ rfl;rw[hnt];refine Arn mixed 8 cc l8 cC rfl (PkQ ks s l t o ts) _ _ je _ _ _ _ sim0 _ ?_;clear je;rintro x u0 H0 F1 g1' a1 w1 ⟨rfl,hul,hu4,hu6,hu8,⟨tok,hu11⟩,huo,c',L,rfl⟩ sim1' ext1';refine⟨rfl,?_⟩;rw[hrest];obtain⟨g1,k1,k2,k3⟩:=St.forget (H0:=Zk ks s l t o c') (L:=L) sim1'.1 ext1' (Nl _) (Bm1 ks s l t o c') (fun b _=>hs.beyond b (Nl _));have tm1:RL F1 g1 w1 (u0.map Rm) a1.tmps.toList:=N7 (n:=6) k1 _ _ (A2v 6 u0 rfl) (A2u huo sim1'.2.1);have D4:=A2v 6 u0 rfl;have hl:(u0.map Rm).length=119:=by simpa using hul
 have h4:(u0.map Rm)[4]? =some (.ptr 1 0):=by rw[Vf,hu4]; rfl
 have h6:(u0.map Rm)[6]? =some (.ptr 3 0):=by rw[Vf,hu6]; rfl
 have h8:(u0.map Rm)[8]? =some (.ptr 4 0):=by rw[Vf,hu8]; rfl
 have Fw:(u0.map Rm)[11]? =some (.sl .none (ts.map Ag)):=by
  rw[Vf,hu11];simp[Rm]
 generalize u0.map Rm=u at tm1 D4 hl h4 h6 h8 Fw;have s1:St F1 g1 (Eb ks s l t Cj o c') w1:=Ays ks s l t o c'▸k2.strip;have ext1:Bn (Fc F w) g [] w F1 g1 (Eb ks s l t Cj o c') w1:=Ays ks s l t o c'▸k3.strip;have sim1:Gk Tryz.prog F1 g1 (Eb ks s l t Cj o c') w1 u a1:=⟨s1,tm1,sim1'.2.2⟩;clear k1 k2 k3 sim1' ext1' hu4 hu6 hu8 hu11 huo hul;refine wpIn_seq (wpIn_seq (wpIn_mono (wpIn_wide.2 ((Bm8 ts ks s l t Cj o c' u hl Fw).det b cB _ _ _ _ sim1)) ?_));rintro e a2 w2 ⟨x,t2,H2,F2,g2,rfl,⟨rfl,rfl,rfl⟩,sim2,ext2⟩;simp only[AX.to,Exit.then];have ext02:=ext1.trans ext2;have Dy:=sim2.2.2.1;obtain⟨B3,vs3,e3,p1,p2,p3,p4,p5⟩:=sim2.1.var 6 [.sl .none (ts.map Ag)] rfl;obtain⟨sv,Zc,hsr⟩:=n9 p4
 have A8:w2.cell? ⟨B3,0,none⟩=some sv:=by
  simp only[World.cell?,p3,Oz,Dp,Bq];rw[<- Mm,Zc]; rfl
 obtain⟨g3,q1,q2,q3⟩:=St.forget (H0:=Eb ks s l t Cj o c') (L:=[.var [.sl .none (ts.map Ag)]]) sim2.1 ext02 (Nl _) (wm _ ks s l t Cj o c') (fun b _=>hs.beyond b (Nl _));have q1:∀b,b<6->g3.blk b=g2.blk b/\g3.tk b=g2.tk b:=q1;let FS:Addr->Prop:=fun x=>Fc F2 w2 x\/x=⟨B3,0,none⟩;have K2:Fi (Fc F2 w2) g2 w2 FS g2 w2:=⟨fun _ h=>.inl h,fun _ _=>rfl,Gh.le_refl _⟩;have hB3:B3<w2.heap.size:=D1 p3
 have am:∀x,FS x->x.block<w2.heap.size:=fun x hx=>by
  rcases hx with hx|rfl
  . exact sim2.1.live x hx.1
  exact hB3
 have al:∀x,FS x->(w2.cell? x).isSome=true:=fun x hx=>by
  rcases hx with hx|rfl
  . exact hx.2
  rw[A8]; rfl
 have Ab7:∀b off s,¬FS ⟨b,off,some s⟩:=fun b off s hx=>by
  rcases hx with hx|hx
  . exact sim2.1.spots b off s hx.1
  cases hx
 have Acp:∀b B,b<6->g2.blk b=some B->B≠B3:=fun b B hb h e=>by
  have:=sim2.1.inj b 6 B h (by rw[p1,e]); omega
 have sS:St FS g3 (Eb ks s l t Cj o c') w2:=by
  have s0:=q2.cells;refine⟨am,q2.beyond,q2.inj,fun b cs hb=>?_,fun t n k ty ht=>?_,Ab7,fun b e cs hb=>?_,fun b m hb=>absurd hb (di ks s l t Cj o c' b m)⟩
  . obtain⟨B,us,e',h1,h2,h3,h4,h5⟩:=s0.var b cs hb;have M2:b<6:=(List.getElem?_eq_some_iff.1 hb).1;refine⟨B,us,e',h1,h2,h3,RL.mono ⟨fun _ h=>.inl h,fun _ _=>rfl,Gh.le_refl _⟩ _ _ h4,fun off h=>?_⟩;rcases h with h|h
    . exact h5 off h
    exact Acp b B M2 (by rw[<- (q1 b M2).1]; exact h1) (by cases h;rfl)
  . obtain⟨_,hx⟩:=wl _ _ _ _ _ _ _ ht;cases hx
  obtain⟨_,hx⟩:=wl _ _ _ _ _ _ _ hb;cases hx
 have eS:Bn (Fc F w) g [] w FS g3 (Eb ks s l t Cj o c') w2:=by
  refine⟨fun x hx=>.inl ⟨q3.sub x hx,?_⟩,q3.keep,q3.gh,q3.size,q3.frame,fun x hx=>?_,q3.blks,q3.len,q3.io⟩
  . rw[q3.keep x hx]; exact hx.2
  rcases hx with hx|rfl
  . exact q3.new x hx.1
  refine .inr (.inl ?_);rcases ext02.blks 6 B3 (by simp[Eb]) p1 with⟨h,_⟩|h
  . exact absurd h (Jr _)
  exact h
 obtain⟨U,hU⟩:∃U,U=(u.set 98 (.sl .none (ts.map Ag))).set 99 (.fn (.func 257) [] [.eptr [.sl .none (ts.map Ag)]]):=⟨_,rfl⟩;have Yz:U.length=119:=by rw[hU]; simpa using hl
 have hU4:U[4]? =some (.ptr 1 0):=by rw[hU]; simpa[qd]using h4
 have hU6:U[6]? =some (.ptr 3 0):=by rw[hU]; simpa[qd]using h6
 have hU8:U[8]? =some (.ptr 4 0):=by rw[hU]; simpa[qd]using h8
 have hUs:A0 6 U=true:=by
  rw[hU];exact dq (dq D4 (by simp[AV.inScope])) (by simp[AV.inScope,A0])
 have tS:Tm FS g3 w2 U a2/\a2.tmps[99]? =some (.func (.func 257) #[] #[.pointer (some ⟨B3,0,none⟩)]):=by
  have h0:RL F2 g2 w2 _ a2.tmps.toList:=sim2.2.1;obtain⟨fv,f1,f2⟩:=Vg h0 99 (.fn (.func 257) [] [.ptr 6 0]) (by rw[Ks (by simp[hl])]);obtain⟨l1,l2,rfl,k1,k2⟩:=fb f2;simp only[RL]at k1;obtain⟨pv,k3,k4⟩:=n9 k2;obtain⟨B',k5,_,rfl⟩:=Nm k4;rw[p1]at k5;cases k5;have e1:l1= #[]:=by apply L5;simpa using k1
  have e2:l2= #[.pointer (some ⟨B3,0,none⟩)]:=by apply L5;simpa using k3
  subst e1 e2;refine⟨?_,by rw[<- Mm]; exact f1⟩;have h1:RL FS g2 w2 _ a2.tmps.toList:=RL.mono K2 _ _ (Pu _ _ h0)
  have Uk:R FS g2 w2 (.fn (.func 257) [] [.eptr [.sl .none (ts.map Ag)]]) (.func (.func 257) #[] #[.pointer (some ⟨B3,0,none⟩)]):=by
   simp only[R];refine⟨_,_,rfl,by simp[RL],?_⟩;simp only[RL];refine⟨_,[],rfl,?_,rfl⟩;simp only[R];refine⟨B3,0,rfl,?_⟩;simp only[RM];exact⟨⟨rfl,sv,.inr rfl,A8,R.mono K2 _ _ (Wu _ _ hsr)⟩,trivial⟩
  have h2:=Vh h1 Uk 99
  have e3:a2.tmps.toList.set 99 (.func (.func 257) #[] #[.pointer (some ⟨B3,0,none⟩)])=a2.tmps.toList:=by
   apply Tq;intro i;by_cases hi:i=99
   . subst hi;have hl:99<a2.tmps.toList.length:=(List.getElem?_eq_some_iff.1 f1).1;rw[Ks hl,f1]<;>rfl
   rw[Ia (Ib hi)]
  rw[e3,List.set_set]at h2;rw[<- hU]at h2;exact N7 (n:=6) q1 _ _ hUs h2
 clear hU;obtain⟨tS,Uk⟩:=tS;have gS:Ja Tryz.prog FS w2:=an.mono eS.keeps
 obtain⟨zs,hzs,stops⟩:=A44 ts Aa Aa FS g3 w2 B3 am sv (.inr rfl) A8 (by
  have:=R.mono K2 _ _ (Wu _ _ hsr)
  exact Mo (n:=6) q1 _ _ (by simp[AV.inScope]) this)
 have mk:∀{Fx:Addr->Prop} {gx:Gh} {W:World} {H:Ai},Bn FS g3 (Eb ks s l t Cj o c') w2 Fx gx H W->Tm Fx gx W U a2/\Ja Tryz.prog Fx W:=fun h=>⟨tS.mono h.keeps,gS.mono h.keeps⟩;have sB:∀b,6<=b->g3.blk b=none/\g3.tk b=none:=fun b hb=>sS.beyond b hb;refine wpIn_block ?_
 refine wpIn_rangeFunc_ownH rfl Aa (gf:=257) (lb:=#[.pointer (some ⟨B3,0,none⟩)]) (by show a2.tmps.getD 99 undef=_;simp[Vb,Uk]) trivial (fun args w=>ru A5 args) stops
  (fun h k a ha=>(k a ha).trans (h a ha)) (fun W l o o' hl h ho _ a ha=>?_) (Below.refl _ _) (fun _=>rfl)
  (fun Bz W=>∃F' g',St F' g' (Eb ks s l t Cj (Ml l ts (Bz.map fun x=>x.val) o) c') W/\Bn FS g3 (Eb ks s l t Cj o c') w2 F' g' (Eb ks s l t Cj (Ml l ts (Bz.map fun x=>x.val) o) c') W/\∀a,F' a->(W.cell? a).isSome=true)
  (fun _ _ _=>False) ?_ (fun _ _ _ _ _ h _ _=>h) ⟨FS,g3,sS,Bn.refl _ _ _ _,al⟩
  (fun x a' W=>a'.defers=[]/\∃Fx gx,(∀ b,gx.tk b=none)/\(∀ b,b<6->gx.blk b=g3.blk b)/\(∀ b,6<=b->gx.blk b=none)/\(∀ a,Fx a->(FS a\/w2.heap.size<=a.block)/\a.block<W.heap.size/\(W.cell? a).isSome=true/\a.spot=none)/\
   Tm Fx gx W ((((U.set 100 (.int .i64 x.val)).set 101 (Ad ts[x.val])).set 14 (.int .i64 x.val)).set 15 (.eptr (Ag ts[x.val]))) a') ?_ ?_ ?_ ?_ ?_
 ·
  refine Oa ?_;have:=am a ha;exact World.putObj_heap_other Aa
 . rintro Bz W W' row ⟨F',g',h1,h2,h3⟩ hg hr;exact⟨F',g',h1.grown (di _ _ _ _ _ _ _) h3 hg fun r e=>(hr r e).2,h2.grown h3 hg hr,tp h3 hg fun r e=>(hr r e).2⟩
 . rintro x a' _ W W' row ⟨hd,Fx,gx,b1,b2,b3,b4,b5⟩ hg hr;have hc:∀a,Fx a->(W.cell? a).isSome=true:=fun a ha=>(b4 a ha).2.2.1;exact⟨hd,Fx,gx,b1,b2,b3,fun a ha=>⟨(b4 a ha).1,Qp (b4 a ha).2.1 hg.size,tp hc hg (fun r e=>(hr r e).2) a ha,(b4 a ha).2.2.2⟩,b5.mono (Fi.grown hc hg fun r e=>(hr r e).2)⟩
 ·
  rintro lp Bz x W K ⟨F',g',h1,h2,h3⟩ hK;obtain⟨tm,gl⟩:=mk h2
  have Vu:R F' g' W (Ad ts[x.val]) (zs x):=by
   have e1:=Mo (n:=0) (g':=⟨fun _=>none,fun _=>none⟩) (fun b hb=>absurd hb (Jr b)) _ _ Ab (hzs x);have e2:R F' ⟨fun _=>none,fun _=>none⟩ W (Ad ts[x.val]) (zs x):=R.mono ⟨h2.sub,h2.keep,Gh.le_refl _⟩ _ _ e1;exact Mo (n:=0) (fun b hb=>absurd hb (Jr b)) _ _ Ab e2
  have Sb:R F' g' W (.int .i64 x.val) (.int .i64 x.val):=by
   simp only[R]; exact⟨trivial,cg (by simp only[A1]; have:=x.isLt;omega)⟩
  have simA:Gk Tryz.prog F' g' (Eb ks s l t Cj (Ml l ts (Bz.map fun x=>x.val) o) c') W ((U.set 100 (.int .i64 x.val)).set 101 (Ad ts[x.val]))
   {tmps:=((#[100,101]:Array Tmp).zip #[.int .i64 x.val,zs x]).foldl (fun t (p,v)=>t.setIfInBounds p v) a2.tmps,defers:=[]}:=by
   refine⟨h1,?_,rfl,gl⟩;show RL F' g' W _ _;rw[A9d];simp only[Ags];exact Vh (Vh tm Sb 100) Vu 101
  refine wpIn_mono (Bm4 (ro:=some lp) (n:=1) ks s l t Cj (Ml l ts (Bz.map fun x=>x.val) o) c' ts[x.val] x.val _ (by simp[Yz]) (by simp[Yz]) (by simp[Yz]) asg cAs F' g' W _ simA) ?_;rintro e a' W' ⟨x',t',H',F3,g4,rfl,⟨rfl,rfl,rfl⟩,sim',ext'⟩;simp only[AX.to,Exit.then];have ext3:=h2.trans ext';obtain⟨Bk,vk,ek,r1,r2,r3,r4,r5⟩:=sim'.1.var 6 (Ag ts[x.val]) rfl
  have m6:∀(j:Nat) (v:Value),vk.toList[j]? =some v->W'.cell? ⟨Bk,j,none⟩=some v:=fun j v hv=>by
   simp only[World.cell?,r3,Oz,Dp,Bq];rw[<- Mm]; exact hv
  have hBk:w2.heap.size<=Bk:=by
   rcases ext3.blks 6 Bk (by simp[Eb]) r1 with⟨h,_⟩|h
   . exact absurd h (by simp[Eb])
   exact h
  have Qa:vk.toList.length=6:=by rw[<- H5 r4]; simp
  obtain⟨g5,m1,m2,m3⟩:=St.forget (H:=Eb ks s l t Cj o c') (H0:=Eb ks s l t Cj (Ml l ts (Bz.map fun x=>x.val) o) c') (L:=[.var (Ag ts[x.val])]) sim'.1 ext3 (eu rfl) (wm _ _ _ _ _ _ _ _) sB;have m1:∀b,b<6->g5.blk b=g4.blk b/\g5.tk b=g4.tk b:=m1;have m2c:=m2.cells;refine hK a' W' ((Bn.others h1 (di _ _ _ _ _ _ _) ext').from _) (fun a ha=>ext'.keep a (h2.sub a ha)) ⟨Fc F3 W',g5,m2c,m3.cells al,fun _ h=>h.2⟩ ⟨sim'.2.2.1,fun y=>Fc F3 W' y\/(y.block=Bk/\y.spot=none/\y.off<6),g5,oe m2,fun b hb=>?_,fun b hb=>(m2.beyond b hb).1,fun y hy=>?_,?_⟩
  . obtain⟨B,hB,_⟩:=Ayu sS hb;rw[hB]; exact(m3.gh.blk b B hB (oe sS b)).1
  . rcases hy with hy|hy
    . refine⟨?_,sim'.1.live y hy.1,hy.2,?_⟩
      . rcases ext3.new y hy.1 with h|h|⟨t,_,h,_⟩
        . exact .inl h
        . exact .inr h
        exact absurd (oe sS t) h
      cases y with
      |mk bl off spot=>
       cases spot with
       |none=>rfl
       |some s=>exact absurd hy.1 (sim'.1.spots _ _ _)
    cases y with
    |mk bl off spot=>
     obtain⟨rfl,rfl,h6⟩:=hy;obtain⟨v,hv⟩:∃v,vk.toList[off]? =some v:=⟨_,Il (by rw[Qa]; exact h6)⟩;exact⟨.inr hBk,D1 r3,by rw[m6 _ _ hv]; rfl,rfl⟩
  have u0:RL F3 g4 W' _ a'.tmps.toList:=sim'.2.1;have Kk:Fi (Fc F3 W') g4 W' (fun y=>Fc F3 W' y\/(y.block=Bk/\y.spot=none/\y.off<6)) g4 W':=⟨fun _ h=>.inl h,fun _ _=>rfl,Gh.le_refl _⟩;obtain⟨pv,f1,f2⟩:=Vg u0 15 (.ptr 6 0) (by simp[Yz]);obtain⟨B',k5,_,rfl⟩:=Nm f2;rw[r1]at k5;cases k5
  have bo:R (fun y=>Fc F3 W' y\/(y.block=Bk/\y.spot=none/\y.off<6)) g4 W' (.eptr (Ag ts[x.val])) (.pointer (some ⟨Bk,0,none⟩)):=by
   simp only[R];refine⟨Bk,0,rfl,?_⟩
   have rm:∀(cs:Ao) (vl:Fm) (off:Nat),cs.all AV.isCell=true->RL F3 g4 W' cs vl->(∀ j v,vl[j]? =some v->off+j<6/\W'.cell? ⟨Bk,off+j,none⟩=some v)->RM (fun y=>Fc F3 W' y\/(y.block=Bk/\y.spot=none/\y.off<6)) g4 W' Bk off cs:=by
    intro cs
    induction cs with
    |nil=>intro vl off _ _ _;simp only[RM]
    |cons y cs ih=>
     intro vl off Uh Kz Ih;simp only[RL]at Kz;obtain⟨v,r,rfl,z1,z2⟩:=Kz;simp only[Er,Bb]at Uh;simp only[RM];obtain⟨z3,z4⟩:=Ih 0 v rfl;refine⟨⟨Uh.1,v,.inr ⟨trivial,trivial,by simpa using z3⟩,by simpa using z4,R.mono Kk _ _ (Wu _ _ z1)⟩,ih r (off+1) Uh.2 z2 fun j v' hj=>?_⟩;have:=Ih (j+1) v' (by simpa using hj);rwa [show off+(j+1)=off+1+j by omega]at this
   exact rm _ _ 0 (Abj _) r4 fun j v hj=>⟨by have h7:=(List.getElem?_eq_some_iff.1 hj).1;rw[Qa]at h7;simpa using h7,by simpa using m6 j v hj⟩
  have u2:=Vh (RL.mono Kk _ _ (Pu _ _ u0)) bo 15
  have e3:a'.tmps.toList.set 15 (.pointer (some ⟨Bk,0,none⟩))=a'.tmps.toList:=by
   apply Tq;intro i;by_cases hi:i=15
   . subst hi;have hl:15<a'.tmps.toList.length:=(List.getElem?_eq_some_iff.1 f1).1;rw[Ks hl,f1]
   rw[Ia (Ib hi)]
  rw[e3,List.set_set]at u2
  exact N7 (n:=6) m1 _ _ (by
   refine dq (dq (dq (dq hUs (by simp[AV.inScope])) Ab) (by simp[AV.inScope])) (by simp[AV.inScope])) u2
 ·
  rintro lp Bz x a' W Ci _ ⟨F',g',h1,h2,h3⟩ ⟨hd,Fx,gx,b1,b2,b3,b4,b5⟩ _;have gl:=(mk h2).2
  have Acc:∀b B,g'.blk b=some B->b<6/\g3.blk b=some B:=fun b B h=>by
   have hb:b<6:=h1.lt h;obtain⟨B0,hB0,_⟩:=Ayu sS hb;have:=(h2.gh.blk b B0 hB0 (oe sS b)).1;rw[h]at this;cases this;exact⟨hb,hB0⟩
  have hnF:∀b B off,g'.blk b=some B->¬F' ⟨B,off,none⟩->¬(F' ⟨B,off,none⟩\/Fx ⟨B,off,none⟩):=fun b B off hb hn h=>by
   rcases h with h|h
   . exact hn h
   rcases(b4 _ h).1 with q|q
   . exact hn (h2.sub _ q)
   have:=sS.blk_lt (Acc b B hb).2;simp only at q;omega
  have KF:Fi F' g' W (fun y=>F' y\/Fx y) g' W:=⟨fun _ h=>.inl h,fun _ _=>rfl,Gh.le_refl _⟩
  have s3:St (fun y=>F' y\/Fx y) g' (Eb ks s l t Cj (Ml l ts (Bz.map fun x=>x.val) o) c') W:=by
   refine⟨fun y hy=>?_,h1.beyond,h1.inj,fun b cs hb=>?_,fun t n k ty ht=>?_,fun b off s hy=>?_,fun b e cs hb=>?_,fun b m hb=>absurd hb (di _ _ _ _ _ _ _ b m)⟩
   . rcases hy with hy|hy
     . exact h1.live y hy
     exact(b4 y hy).2.1
   . obtain⟨B,us,e',k1,k2,k3,k4,k5⟩:=h1.var b cs hb;exact⟨B,us,e',k1,k2,k3,RL.mono KF _ _ k4,fun off=>hnF b B off k1 (k5 off)⟩
   . obtain⟨_,hx⟩:=wl _ _ _ _ _ _ _ ht;cases hx
   . rcases hy with hy|hy
     . exact h1.spots b off s hy
     cases(b4 _ hy).2.2.2
   obtain⟨_,hx⟩:=wl _ _ _ _ _ _ _ hb;cases hx
  have x3:Bn FS g3 (Eb ks s l t Cj o c') w2 (fun y=>F' y\/Fx y) g' (Eb ks s l t Cj (Ml l ts (Bz.map fun x=>x.val) o) c') W:=by
   refine⟨fun y hy=>.inl (h2.sub y hy),h2.keep,h2.gh,h2.size,h2.frame,fun y hy=>?_,h2.blks,h2.len,h2.io⟩;rcases hy with hy|hy
   . exact h2.new y hy
   exact(b4 y hy).1.imp id .inl
  have tm:Tm (fun y=>F' y\/Fx y) g' W ((((U.set 100 (.int .i64 x.val)).set 101 (Ad ts[x.val])).set 14 (.int .i64 x.val)).set 15 (.eptr (Ag ts[x.val]))) a':=by
   refine b5.mono ⟨fun _ h=>.inr h,fun _ _=>rfl,fun b B hb _=>?_,fun t m k ht=>by rw[b1]at ht;cases ht⟩
   have M2:b<6:=by
    rcases E8 b 6 with h|h
    . exact h
    rw[b3 b h]at hb;cases hb
   rw[b2 b M2]at hb;exact h2.gh.blk b B hb (oe sS b)
  have Ol:x.val<l.length:=by have:=x.isLt;omega
  refine wpIn_block (wpIn_mono (Bm5 (ro:=some lp) (n:=1) ks s l t Cj (Ml l ts (Bz.map fun x=>x.val) o) c' ts[x.val] x.val Ol Kc _ (by simp[Yz]) (by simpa[qd]using hU4) (by simpa[qd]using hU8) (by simp[Yz]) (by simp[Yz]) bdy cBd _ g' W a' ⟨s3,tm,hd,gl.mono KF⟩) ?_);rintro e a'' W'' ⟨x',t',H',F4,g4,rfl,⟨rfl,cs',L',rfl,Hb⟩,sim',ext'⟩;simp only[AX.to,Exit.inBlock];have ext4:=x3.trans ext'
  have hH:([.var (.sl .none (ks.map Ak)::Bx s),.var [.sl .none (l.map Ag)],.var (Bi t),.var (Bi Cj),.var cs',.var (Ag c')]:Ai).map Qj=Eb ks s l t Cj (Ml l ts ((Bz++[x]).map fun x=>x.val) o) c':=by
   have Y5:l.getD x.val A3=l[x.val]:=by rw[Jb,Il Ol]; rfl
   have Q4:ts.getD x.val A3=ts[x.val]:=by rw[Jb,Il x.isLt]; rfl
   simp only[List.map_append,F8,Wn,Bm3,Eb,Qj,Y5,Q4,Hb];simp[Ce,AV.strip]
  have st4:=sim'.1.strip;have ex4:=ext4.strip;rw[List.map_append,hH]at st4 ex4;obtain⟨g5,m1,m2,m3⟩:=St.forget (H:=Eb ks s l t Cj o c') (H0:=Eb ks s l t Cj (Ml l ts ((Bz++[x]).map fun x=>x.val) o) c') (L:=L'.map Qj) st4 ex4 (eu rfl) (wm _ _ _ _ _ _ _ _) sB;exact⟨(Bn.others s3 (di _ _ _ _ _ _ _) ext').from _,fun a ha=>ext'.keep a (.inl (h2.sub a ha)),Fc F4 W'',g5,m2.cells,m3.cells al,fun _ h=>h.2⟩
 ·
  rintro D xs W hD hS ⟨F',g',h1,h2,h3⟩ hKD;obtain⟨tm,gl⟩:=mk h2;rw[hS]at h1 h2;have hot:=Aer l ts M8 (List.range ts.length).reverse o ho;generalize Ml l ts (List.range ts.length).reverse o=of at h1 h2 hot ⊢;simp only[Exit.inBlock,Exit.then];refine wpIn_seq (wpIn_mono (Az2 (ro:=none) (n:=3) (ds:=[{target:=.collected D,args:=#[]}]) (Q:=fun x u' H=>x= .normal/\(u'.getD 6 .undef= .ptr 3 0/\u'.getD 7 .undef= .int .i64 (N3 of).2/\H=Eb ks s l t (N3 of).1 of c')) cT ⟨h1,tm,by simp[Dy],gl⟩ ?_) ?_)
  ·
   exact re (Bm7 ks s l t Cj of c' hot U Yz hU6 hU8) fun t H h=>⟨rfl,h⟩
  rintro e a3 w3 ⟨x',t',H',F3,g4,rfl,⟨rfl,ht6,ht7,rfl⟩,sim',ext'⟩;simp only[AX.to,Exit.then];obtain⟨s3,tm3,hd3,_⟩:=sim';have m7:w3.heap[D]? =some (.deferred (some [])):=(Bn.others h1 (di _ _ _ _ _ _ _) ext').same D _ hKD rfl;refine wpIn_ret ?_;show LeavesInM Fence.wide 3 Tryz.prog fn a3.tmps _ a3.defers .returning w3;rw[hd3];refine⟨Ab,.inl ⟨D,_,rfl,run_takeDeferred m7,?_⟩⟩;have ex3:=((eS.trans h2).trans ext').cells hF0;have s3c:=s3.cells;have Acq:=di ks s l t (N3 of).1 of c';have ax:∀a,Fc F3 w3 a->(w3.cell? a).isSome=true:=fun _ h=>h.2;have hg:w3.grownBy (w3.putObj D (.deferred none)) (some D):=grownBy_putObj' w3 D _
  have hr:∀r,some D=some r->w.heap.size<=r/\∃o:Obj,w3.heap[r]? =some o/\o.isCells=false:=fun r e=>by
   cases e;exact⟨Ps eS.size hD,_,m7,rfl⟩
  have s4:=s3c.grown Acq ax hg fun r e=>(hr r e).2;have ex4:=ex3.grown ax hg hr;have tm4:Tm (Fc F3 w3) g4 (w3.putObj D (.deferred none)) t' a3:=Tm.mono (Fi.grown ax hg fun r e=>(hr r e).2) (show Tm (Fc F3 w3) g4 w3 t' a3 from Pu _ _ tm3);have gl4:Ja Tryz.prog (Fc F3 w3) (w3.putObj D (.deferred none)):=an.mono ex4.keeps
  obtain⟨v,hu,Uq⟩:=ko (P:=Tryz.prog) (a:={tmps:=a3.tmps,defers:=[]}) (t:=t') (v:=Cf (N3 of)) ⟨s4,tm4,rfl,gl4⟩ Hr (by
   generalize N3 of =z at ht7 ⊢;simp only[I2,Ic,Js,ht6,ht7]
   simp[Ni,Cf,Ah,Eb])
  obtain⟨g5,m1,m2,m3⟩:=St.forget (H:=[]) (H0:=[]) (L:=Eb ks s l t (N3 of).1 of c') s4 ex4 (Bm _) rfl (fun b _=>hs.beyond b (Nl _));exact⟨v,hu,v,_,g5,rfl,Mo (n:=0) (fun b hb=>absurd hb (Jr b)) _ _ (Bqw _ 0) Uq,m2,m3⟩
 rintro D c' Bz W _ _ h;exact h.elim
end
section
open Go.RowKit
attribute [-simp] Int.not_lt Int.not_le
attribute [local simp] Cb Cq
def A2r(t:Te):(N3 t=(t,0)/\Pk t=true)\/N3 t=(Cj,6):=by
 unfold N3;cases Pk t
 . exact .inr rfl
 exact .inl ⟨rfl,rfl⟩
def gm(ks:B6)(s:Sm)(l:Ax)(t:Te)(hA:Rq ks s l t):∃p:Te×Int,Hc 105 [C8 ks s,.sl .none (l.map Ag),Ah t] (Cf p)/\(p.2=0->Ds 400 p.1/\wT p.1<=20000)/\(Ly ks s l t=true->p.2=0\/p.2=6):=by
 cases hok:Ly ks s l t
 . exact⟨(Cj,1),Bkv ks s l t hA hok,Ab,Ab⟩
 have Acr:=hok;unfold Ly at Acr;simp only[Bb,Aw]at Acr;obtain⟨⟨⟨⟨k1,k2⟩,k3⟩,hl⟩,k5⟩:=Acr;have hw:=Vr k1;have jj:=(xl hA.t).1 k3;clear k1 k2 k3 k5;obtain⟨⟨o,e⟩,Br,ho,_,hoz,hoe⟩:=A1q t 0 0 hA.t Aa Aa Aa Aa;by_cases he:e=0
 case neg=>exact⟨(Cj,e),Bkw ks s l t hA hok o e he Br,fun h=>absurd h he,fun _=>hoe jj.1 jj.2⟩
 subst he;have ho:=ho rfl;have Ab9:=A8c ks s hw;have Oe:=A8e A8j ks s hA.s hw hA.k;have Bg:=@A8b ks s;generalize W8 ks s=q at Oe Bg Ab9;obtain⟨c,e⟩:=q;by_cases he:e=0
 case neg=>exact⟨(Cj,e),Bkq ks s l t hA hok o Br c e he Oe,fun h=>absurd h he,fun _=>by
  cases hv:Ar (C9 10 ks (Ez s))
  . exact .inr (Bcv Ab9 hv).2
  exact .inl (Bcw Ab9 hv).2⟩
 subst he;obtain⟨Bg,Cl⟩:=Bg rfl;simp only at Bg Cl;by_cases Gf:0<l.length
 case neg=>
  obtain rfl:l=[]:=by cases l with
   |nil=>rfl
   |cons x l=>simp at Gf
  exact⟨(o,0),Bks ks s t hA hok o Br c Oe,fun _=>⟨ho,(hoz rfl).1⟩,fun _=>.inl rfl⟩
 rw[<- hl]at Bg
 cases hty:L3 l c with
 |none=>exact⟨(Cj,6),Bkr ks s l t hA hok o Br c Oe Gf Cl Bg hty,Ab,fun _=>.inr rfl⟩
 |some ts=>exact⟨_,Bku ks s l t hA hok o Br c Oe Gf Cl Bg (by have:=hA.k;omega) ts hty (Tg _ _ ho),(fun h=>by
  rcases A2r (Ml l ts (List.range ts.length).reverse o)with⟨e,hv⟩|e
  . rw[e]; exact(xl (Aer l ts (Af7 _ _ _ hty Cl) _ _ (Tg _ _ ho))).1 hv
  . rw[e]at h;cases h),fun _=>by
  rcases A2r (Ml l ts (List.range ts.length).reverse o)with⟨e,_⟩|e
  . rw[e]; exact .inl rfl
  rw[e]; exact .inr rfl⟩
open Classical in
noncomputable def Om(ks:List Kd)(s:Sm)(l:List Cn)(t:Te):Te×Int:=if h:Rq ks s l t then(gm ks s l t h).choose else(Cj,0)
def wk{ks:B6}{s:Sm}{l:Ax}{t:Te}(h:Rq ks s l t):Hc 105 [C8 ks s,.sl .none (l.map Ag),Ah t] (Cf (Om ks s l t))/\((Om ks s l t).2=0->Ds 400 (Om ks s l t).1):=by
 rw[Om,Ob h]; exact⟨(gm ks s l t h).choose_spec.1,fun e=>((gm ks s l t h).choose_spec.2.1 e).1⟩
def Aep{ks:B6}{s:Sm}{l:Ax}{t:Te}(h:Rq ks s l t)(hok:Ly ks s l t=true):((Om ks s l t).2=0\/(Om ks s l t).2=6)/\((Om ks s l t).2=0->wT (Om ks s l t).1<=20000):=by
 rw[Om,Ob h]; exact⟨(gm ks s l t h).choose_spec.2.2 hok,fun e=>((gm ks s l t h).choose_spec.2.1 e).2⟩
def A79{e:El}(h:R0 e=true):e.ks.length<=1000/\Cu e.s=true/\Ds 400 e.t/\(∀ x∈e.w,Ar x=true)/\(e.pure=true->e.w.length=e.ks.length)/\(e.pure=false->e.w=[]):=by
 unfold R0 at h;simp only[Bb]at h;obtain⟨⟨⟨⟨h1,h2⟩,h3⟩,h4⟩,h5⟩:=h;unfold J2 at h1;simp only[Bb,Aw]at h1;unfold On at h5;refine⟨h1.1,h2,Bqy h3,fun x hx=>List.all_eq_true.1 h4 x hx,fun hp=>?_,fun hp=>?_⟩
 . rw[Ae hp]at h5;simpa using h5
 rw[Ac (by simp[hp])]at h5;simpa using h5
def elI(e:El)(t:Te):El:=⟨e.ks,[],false,e.s,t⟩
noncomputable def Ho(e:El):El×Int:=if e.pure=true then(elI e (Om e.ks e.s e.w e.t).1,(Om e.ks e.s e.w e.t).2)else(e,0)
def mi{e:El}(hb:Kv e)(h:R0 e=true):Rq e.ks e.s e.w e.t:=⟨hb.s,hb.t,hb.w,(A79 h).1⟩
def Avg(e:El)(hb:Kv e)(hf:R0 e=true):Kr Tryz.prog 38 [As e] (As (Ho e).1) (Ho e).2:=by
 cases hp:e.pure
 . have key:Ho e=(e,0):=by rw[Ho,Ac (by simp[hp])]
   rw[key];refine⟨fun _=>?_,fun h=>absurd rfl h⟩;refine Hg Adz fun Q hQ=>?_;simp[As,A7 e,hp];exact hQ (by simp[As,A7 e,hp])
 have key:Ho e=(elI e (Om e.ks e.s e.w e.t).1,(Om e.ks e.s e.w e.t).2):=by rw[Ho,Ae hp]
 have S9:=(wk (mi hb hf)).1;rw[key];generalize Om e.ks e.s e.w e.t=q at S9 ⊢;obtain⟨t,r⟩:=q;have Oe:=Bba e;clear key hb hf;constructor
 . intro he;simp only at he;subst he;refine Hg Adz fun Q hQ=>?_;simp[As,A7 e,hp];refine Gr (fun _=>true) [] Bc Bc ?_;simp;refine Da Oe ?_ (he:=by simp[As,A7 e,hp]);simp[C8,Av e.s];refine Da S9 ?_;simp[Cf,Ah,Aq t];refine⟨fun b cs _ hb=>by simpa using E4 (L:=[_]) hb,?_⟩;refine Ca U0 ?_;simp;exact hQ (by simp[elI,As,A7])
 intro he;simp only at he;refine Ft.go mixed Adz Ab Ab fun Am=>?_;letI:D6:=K5 r [];clear Am;simp[As,A7 e,hp];refine Gr (fun _=>true) [] Bc Bc ?_;simp;refine Da Oe ?_ (he:=by simp[As,A7 e,hp]);simp[C8,Av e.s];refine Da S9 ?_;simp[Cf,Ah,Aq t];refine⟨fun b cs _ hb=>by simpa using E4 (L:=[_]) hb,?_⟩;exact Ve (Xy r he) Ab Ab ⟨_,rfl⟩
def Aun{e:El}(hb:Kv e)(hf:R0 e=true)(h:(Ho e).2=0):Kv (Ho e).1:=by
 unfold Ho at h ⊢;split
 . rename_i hp;rw[Ae hp]at h;exact⟨hb.s,Tg _ _ ((wk (mi hb hf)).2 h),fun x hx=>by cases hx⟩
 exact hb
end
section
open Go.RowKit
attribute [local simp] Cb Cq
def Eh:List AV:=[.int .i64 9223372036854775808,.int .i64 0,.str [],.int .i64 0,.int .i64 0,.str [],.sl .none [],.sl .none [],.sl .none [],.int .i64 0,.int .i64 0,.str [],.sl .none [],.sl .none [],.sl .none [],.sl .none [],.sl .none [],.sl .none []]
def L8:List AV:=[.int .i64 9223372036854775808,.int .i64 0,.str [],.int .i64 0,.int .i64 0,.str [],.sl .none [],.sl .none [],.sl .none [],.sl .none [],.sl .none [],.sl .none [],.sl .none [],.sl .none []]
def Bas{HV H0:Ai}(hv:∀b,b<H0.length->∃cs:Ao,H0[b]? =some (HB.var cs))(je:∀(b:Nat) (cs:Ao),H0[b]? =some (HB.var cs)->HV[b]? =some (HB.var cs))(hk:Ev (fun _=>true) HV H):∃L,H=H0++L:=by
 refine⟨H.drop H0.length,?_⟩
 have key:∀b,b<H0.length->H[b]? =H0[b]?:=fun b hb=>by
  obtain⟨cs,B7⟩:=hv b hb;rw[B7]; exact hk b cs rfl (je b cs B7)
 apply Tq;intro i;rcases E8 i H0.length with h|h
 . rw[D5 h]; exact key i h
 rw[Hj h,ei]; congr 1;omega
def A34[D6](V:Nat->Bool)(nq:Ck)(d:Nat)(hm:P.follows .mixedOrders=true){ops:B8}{ws:List Ck}{k:I7}{Q:Co}(hok:K4 ops ws (H6 ops nq) ops.length=true)(ht:d6 ops nq=true)
 (h:DR P V nq H 0 ops [] (fun _ t' H'=>Ev V H H'/\Ua (t'.getD d .undef)=true) t H):WP P (.draw ops ws) k Q t H:=
 .inr (.inr (A9.dead d (A9.drawF (Q:=fun _ t' _=>Ua (t'.getD d .undef)=true) hm V nq hok ht h)))
def Rx(r:Ao):Ua (.agg (.int .i64 9223372036854775808::r))=true:=Bc
def Boq(n:Nat):Be n cL=true:=by simp[cL,Cx,Be,A0,AV.inScope]
def Ahy{F:Addr->Prop}{g:Gh}{w:World} :∀{xs:List AV} {vs:List Value},xs.any Ua=true->RL F g w xs vs->False
 | [],_,h,_=>by cases h
 |x::xs,vs,h,hr=>by
  simp only[RL]at hr;obtain⟨v,r,rfl,h1,h2⟩:=hr;rw[Ag2,Wj]at h;rcases h with h|h
  . exact qs h h1
  exact Ahy h h2
def ga(v:AV):Bool:=Ua v||(match v with | .sl _ ((.int k n::_)::_)=>decide (n<k.min\/k.max<n) | .agg cs=>cs.any Ua|_=>false)
def A3z{F:Addr->Prop}{g:Gh}{w:World}{v:AV}{u:Value}(h:ga v=true)(hr:R F g w v u):False:=by
 unfold ga at h;rcases Wj _ _▸h with h|h
 . exact qs h hr
 split at h
 . obtain⟨_,⟨h1,_⟩|⟨B,off,sp,cap,k,_,_,_,h3,_⟩⟩:=L7 hr
   . cases h1
   simp only[RE,RM]at h3;obtain⟨_,⟨⟨_,v,_,_,h4⟩,_⟩,_⟩:=h3;exact qs (v:=.int _ _) h h4
 . simp only[R]at hr;obtain⟨a,_,hr⟩:=hr;exact Ahy h hr
 cases h
def Ahx{F:Addr->Prop}{g:Gh}{w:World} :∀{xs:List AV} {vs:List Value},xs.any ga=true->RL F g w xs vs->False
 | [],_,h,_=>by cases h
 |x::xs,vs,h,hr=>by
  simp only[RL]at hr;obtain⟨v,r,rfl,h1,h2⟩:=hr;rw[Ag2,Wj]at h;rcases h with h|h
  . exact A3z h h1
  exact Ahx h h2
def Mw{f:FuncId}{ac:AC}{n:Nat}{rs:List Gp}(hf:Nk P f ac n rs)(args:Ao)(h:args.any ga=true)(v:AV)(H:Ai):C7 P f args H v H:=
 ⟨hf.en,fun _ _ _ _ _ _ hr=>(Ahx h hr).elim⟩
end
