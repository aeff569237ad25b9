/- A part of the proof that LiftApplies answers true. -/
import Derived.Test.YtndkeknbfbdeeaaGreatDoorG15
import Derived.Test.YtndkeknbfbdeeaaGreatDoorG16
set_option linter.all false
set_option maxHeartbeats 4000000
set_option maxRecDepth 100000
namespace Go.Proofs.YtndkeknbfbdeeaaGreatDoor
open Go
variable {t:Te}
section
attribute [-simp] Int.not_lt Int.not_le
attribute [local simp] Cb Cq
def Dj(op:Int):Bool:=op==4||(op==7||(op==8||(op==12||(op==14||(op==16||op==19)))))
def xm(op:Int):Hc 153 [.int .i64 op] (.bool (Dj op)):=by
 refine Hg Bjj fun Q hQ=>?_;simp
 repeat' (first |(refine C3 (fun hb=>?_) (fun hb=>?_)<;>(try simp only[bN]at hb)<;>simp[hb])|(refine Em (fun hb=>?_) (fun hb=>?_)<;>(try simp only[bN]at hb)<;>simp[hb,Dj]))
 all_goals exact hQ (by simp[*,Dj])
def fj(n:Int):Int:=if n=6\/n=11\/n=13\/n=14 then 1 else 2
def Bq4(n:Int):Hc 290 [.int .i64 n] (.int .i64 (fj n)):=by
 refine Hg Bjd fun Q hQ=>?_;simp
 repeat' (first |(refine C3 (fun hb=>?_) (fun hb=>?_)<;>(try simp only[bN]at hb)<;>simp[hb])|(refine Em (fun hb=>?_) (fun hb=>?_)<;>(try simp only[bN]at hb)<;>simp[hb,fj]))
 all_goals exact hQ (by simp[*,fj])
def cw(t:Te):Bool:=if t.op=1 then decide (0<=t.n)&&decide (t.n<=20000)else if t.op=2 then decide (-4503599627370496<=t.n)&&decide (t.n<=4503599627370496)else if t.op=18 then decide (1<=t.n)&&decide (t.n<=14)else
 if t.op=19 then decide (1<=t.n)&&decide (t.n<=1000000)else decide (t.n=0)
def Bre(t:Te):Hc 228 [Ah t] (.bool (cw t)):=by
 refine Hg Bjo fun Q hQ=>?_;simp[Ah,Aq t]
 repeat' (first |(refine C3 (fun hb=>?_) (fun hb=>?_)<;>(try simp only[bN]at hb)<;>simp[hb])|(refine Em (fun hb=>?_) (fun hb=>?_)<;>(try simp only[bN]at hb)<;>simp[hb]))
 all_goals exact hQ (by simp[cw, *])
def dj(t:Te):Int:=if t.op=1\/t.op=2\/t.op=3\/t.op=19 then 0 else if t.op=4\/t.op=6\/t.op=7\/t.op=8\/t.op=11\/t.op=12\/t.op=14\/t.op=15\/t.op=16 then 1 else if t.op=5\/t.op=9\/t.op=17 then 2 else
 if t.op=10 then t.names.length else if t.op=13 then IntKind.i64.wrap (t.names.length+1)else if t.op=18 then fj t.n else -1
def Brf(t:Te):Hc 229 [Ah t] (.int .i64 (dj t)):=by
 refine Hg Bjp fun Q hQ=>?_;simp[Ah,Aq t]
 repeat' (first |(refine C3 (fun hb=>?_) (fun hb=>?_)<;>(try simp only[bN]at hb)<;>simp[hb,At])|(refine Em (fun hb=>?_) (fun hb=>?_)<;>(try simp only[bN]at hb)<;>simp[hb,At])|(refine Fh (Bq4 t.n) Ab Ab (by simp[*]) ?_;simp))
 all_goals exact hQ (by simp[dj, *])
def I0(t:Te):Bool:=if t.op=3 then decide (t.s.length<=16384)else if t.op=11\/t.op=12 then Ff t.s else decide (t.s=[])
def Brk(t:Te):Hc 230 [Ah t] (.bool (I0 t)):=by
 refine Hg Bju fun Q hQ=>?_;simp[Ah,Aq t];by_cases h3:t.op=3
 . have e:decide ((t.s.length:Int)<=16384)=decide (t.s.length<=16384):=by congr 1;simp;omega
   simp[h3];exact hQ (by simp[I0,h3,e])
 by_cases Fw:t.op=11
 . simp[Fw];refine Ca (uq t.s) ?_;simp;exact hQ (by simp[I0,Fw])
 by_cases Eo:t.op=12
 . simp[Eo];refine Ca (uq t.s) ?_;simp;exact hQ (by simp[I0,Eo])
 simp[h3,Fw,Eo];exact hQ (by simp[I0,h3,Fw,Eo])
def Brc(s:Bu):Hc 291 [.str s] (.bool !Ff s):=by
 refine Hg Bjm fun Q hQ=>?_;simp;refine Ca (uq s) ?_;simp;exact hQ
def jx(t:Te):Bool:=if t.op≠10/\t.op≠13 then decide (t.names.length=0)else if(t.op=13/\t.names.length=0)\/1000<t.names.length then false else asc t.names&&t.names.all Ff
def Brd(t:Te):Hc 231 [Ah t] (.bool (jx t)):=by
 have Fy:Hc 79 [.sl .none (At t.names),.fn (.func 291) [] []] (.bool !t.names.all Ff):=by
  have:=ou t.names (fun s=>!Ff s) 291 fun x _=>Brc x;rw[Rs]at this;exact this
 have hl:(At t.names).length=t.names.length:=by simp[At]
 have key:jx t=if t.op≠10/\t.op≠13 then decide (t.names.length=0)else if(t.op=13/\t.names.length=0)\/1000<t.names.length then false else asc t.names&&t.names.all Ff:=rfl;have hz:((t.names.length:Int)=0)↔t.names.length=0:=Aa;refine Hg Bjl fun Q hQ=>?_;simp[Ah,Aq t];by_cases Ig:t.op=10
 . rw[Ac (by simp[Ig])]at key;by_cases hm:1000<t.names.length
   . rw[Ae (.inr hm)]at key;have H7:(1000:Int)<t.names.length:=Aa;simp[Ig,H7,hl];exact hQ
   rw[Ac (by simp[Ig,hm])]at key;have H7:¬(1000:Int)<t.names.length:=Aa;simp[Ig,H7,hl];refine Ca (uo t.names) ?_;cases ha:asc t.names
   . simp;exact hQ
   simp;refine Ca Fy ?_;simp;exact hQ
 by_cases Hn:t.op=13
 . rw[Ac (by simp[Hn])]at key;by_cases h0:t.names.length=0
   . rw[Ae (.inl ⟨Hn,h0⟩)]at key;have h0':(t.names.length:Int)=0:=Aa;simp[Hn,h0,hl];exact hQ
   have h0':¬(t.names.length:Int)=0:=Aa;by_cases hm:1000<t.names.length
   . rw[Ae (.inr hm)]at key;have H7:(1000:Int)<t.names.length:=Aa;simp[Hn,h0,H7,hl];exact hQ
   rw[Ac (by simp[Hn,hm,h0])]at key;have H7:¬(1000:Int)<t.names.length:=Aa;have h0n:¬t.names=[]:=fun h=>h0 (by simp[h]);simp[Hn,h0,H7,hl];refine Ca (uo t.names) ?_;cases ha:asc t.names
   . simp;exact hQ
   simp;refine Ca Fy ?_;simp;exact hQ
 rw[Ae ⟨Ig,Hn⟩]at key;simp[Ig,Hn,hl];exact hQ
def Bq6(c:Cn):Hc 292 [Ad c] (.bool (Gd c A3)):=by
 have h:=Af8 c A3;generalize Gd c A3=b at h ⊢;refine Hg Bjf fun Q hQ=>?_;simp[Ad];refine Ca h ?_ (he:=by simp[Ad,E9]);simp;exact hQ
def P0(c:Cn)(there:Bool):Bool:=if there=true then Ar c else Gd c A3
def A1s(c:Cn)(b:Bool)(hc:Al c<=1000000000000):Hc 232 [Ad c,.bool b] (.bool (P0 c b)):=by
 cases b
 . have h:=Bq6 c;have key:P0 c false=Gd c A3:=rfl;rw[key];generalize Gd c A3=q at h;refine Hg Axe fun Q hQ=>?_;simp[Ad];refine Ca h ?_;simp;exact hQ
 have key:P0 c true=Ar c:=rfl;rw[key];refine Hg Axe fun Q hQ=>?_;simp[Ad];refine Ca (Lc c hc) ?_;simp;exact hQ
def Zg(t:Te):Bool:=!(decide (t.op<1)||(decide (19<t.op)||(!cw t||(!decide ((t.l.length:Int)=dj t)||(!I0 t || !jx t)))))
def cq(t:Te):Bool:=(decide (t.op=6)&&Eu t.k)||decide (t.k.l.length=0)
def Ew(t:Te):Bool:=Zg t&&(cq t&&(P0 t.con (Dj t.op)&&P0 t.to (decide (t.op=8))))
def A1w(t:Te)(hc:Al t.con<=1000000000000)(hd:Al t.to<=1000000000000):Hc 152 [Ah t] (.bool (Ew t)):=by
 have Lk:=Bre t;have Mf:=Brf t;have Lm:=Brk t;have Iu:=Brd t;have hf1:=A1s t.con (Dj t.op) hc;have hf2:=A1s t.to (decide (t.op=8)) hd;have key:Ew t=(Zg t&&(cq t&&(P0 t.con (Dj t.op)&&P0 t.to (decide (t.op=8))))):=rfl;have key1:Zg t= !(decide (t.op<1)||(decide (19<t.op)||(!cw t||(!decide ((t.l.length:Int)=dj t)||(!I0 t || !jx t))))):=rfl;have key2:cq t=((decide (t.op=6)&&Eu t.k)||decide (t.k.l.length=0)):=rfl;generalize cw t=bn at Lk key1;generalize dj t=pt at Mf key1;generalize I0 t=bx at Lm key1;generalize jx t=bm at Iu key1;generalize P0 t.con (Dj t.op)=f1 at hf1 key;generalize P0 t.to (decide (t.op=8))=f2 at hf2 key;generalize Ew t=z at key;refine Hg Bjn fun Q hQ=>?_;simp[-Az,Ah,Aq t];rw[Az];simp[-Az];refine Gc (fun f=>Zg t=true) (fun Q' hn hr=>?_) (fun f hI=>?_)
 . rw[Az];refine Wd ?_;by_cases h1:t.op<1
   . simp[h1];refine hr _ _ ?_;simp;exact hQ
   by_cases h2:19<t.op
   . simp[h1,h2];refine hr _ _ ?_;simp;exact hQ
   simp[h1,h2];refine Da Lk ?_;cases bn
   . simp;refine hr _ _ ?_;simp;exact hQ
   simp;refine Da Mf ?_;by_cases h3:(t.l.length:Int)=pt
   case neg=>
    simp[h3];refine hr _ _ ?_;simp;exact hQ
   simp[h3];refine Da Lm ?_;cases bx
   . simp;refine hr _ _ ?_;simp;exact hQ
   simp;refine Da Iu ?_;cases bm
   . simp;refine hr _ _ ?_;simp;exact hQ
   simp;refine hn _ Ab ?_;rw[key1]; simp[h1,h2,h3]
 rw[hI]at key;simp only[lj]at key;clear hI key1 Lk Mf Lm Iu;simp[-Az];refine Gc (fun f=>f 3= .bool (cq t)) (fun Q' hn hr=>?_) (fun f hI=>?_)
 . have Oh:=ce t.k;generalize Eu t.k=kv at Oh key2;have Nr:decide ((t.k.l.length:Int)=0)=decide (t.k.l.length=0):=by simp only[mf]; omega
   have hk1:decide (t.k.l=[])=decide (t.k.l.length=0):=Ab;cases h6:decide (t.op=6)
   . simp[h6];refine hn _ Ab ?_;simp[key2,h6,hk1]
   simp[h6];refine Ca Oh ?_;cases kv
   . simp;refine hn _ Ab ?_;simp[key2,h6,hk1]
   simp;refine hn _ Ab ?_;simp[key2,h6,hk1]
 clear key2;generalize cq t=n2 at key hI;simp[-Az,hI];rw[Az];refine Wd ?_;cases n2
 . simp;exact hQ
 simp;refine Da (xm t.op) ?_;simp;refine Da hf1 ?_;cases f1
 . simp;exact hQ
 simp;refine Da hf2 ?_;simp;exact hQ
def Dg:Te->Prop
 | .mk _ _ _ c d _ _ l=>Al c<=1000000000000/\Al d<=1000000000000/\∀x∈l,Dg x
def We(t:Te):Dg t↔Al t.con<=1000000000000/\Al t.to<=1000000000000/\∀x∈t.l,Dg x:=by
 cases t;rw[Dg]; rfl
def Ds:Nat->Te->Prop
 |0,_=>False
 |h+1,t=>Ew t=true/\∀x∈t.l,Ds h x
def ct(h:Ew t=true):(Dj t.op=true->Ar t.con=true)/\(t.op=8->Ar t.to=true)/\(t.op=1->0<=t.n/\t.n<=20000):=by
 simp only[Ew,Bb]at h;obtain⟨h1,_,h3,h4⟩:=h;refine⟨fun ho=>?_,fun ho=>?_,fun ho=>?_⟩
 . rw[ho]at h3;exact h3
 . rw[ho]at h4;exact h4
 simp only[Zg,Mn,ef,Agu]at h1;have:=h1.2.2.1;simp only[cw,ho,Bp,Bb,Aw]at this;exact this
def tv(h:Ew t=true)(ho:Dj t.op=true):Al t.con<=20000:=by
 have:=(ct h).1 ho;simp only[Ar,Bb,Aw]at this;exact this.1
def o8(h:Ew t=true)(ho:t.op=8):Al t.to<=20000:=by
 have:=(ct h).2.1 ho;simp only[Ar,Bb,Aw]at this;exact this.1
inductive Zx:List Te->Int->Int->Int->Option Int->Prop
 |nil (left d n):Zx [] left d n (some n)
 |bad {t l left d n} (p:Int×Bool) (h:Hc 92 [Ah t,.int .i64 (left-n),.int .i64 (d+1)] (Pj p)) (hp:p.2=false):Zx (t::l) left d n none
 |good {t l left d n r} (p:Int×Bool) (h:Hc 92 [Ah t,.int .i64 (left-n),.int .i64 (d+1)] (Pj p)) (hp:p.2=true) (h0:0<=p.1) (h1:p.1<=left-n) (hl:Zx l left d (n+p.1) r):Zx (t::l) left d n r
def Lt(t:Te):Int:=1+(if Dj t.op=true then(Al t.con:Int)else 0)+(if t.op=8 then(Al t.to:Int)else 0)
def Bra(t:Te)(left d:Int)(hb:Dg t)(h:left<=0\/400<d\/Ew t=false):Hc 92 [Ah t,.int .i64 left,.int .i64 d] (Pj (0,false)):=by
 have hb':=(We t).1 hb;have Ke:=A1w t hb'.1 hb'.2.1;generalize Ew t=nd at Ke h;refine Hg Axf fun Q hQ=>?_;by_cases h1:left<=0
 . simp[Ah,Aq t,h1];exact hQ (by simp[Pj])
 by_cases h2:400<d
 . simp[Ah,Aq t,h1,h2];exact hQ (by simp[Pj])
 have h3:nd=false:=by
  rcases h with h|h|h
  . exact absurd h h1
  . exact absurd h h2
  exact h
 subst h3;simp[Ah,Aq t,h1,h2];refine Ca Ke ?_;simp;exact hQ (by simp[Pj])
def jv(left:Int):Option Int->Int×Bool
 |none=>(0,false)
 |some n=>(n,decide (n<=left))
def Brb(t:Te)(left d:Int)(hb:Dg t)(h1:0<left)(h1b:left<=20000)(h2:0<=d)(h2b:d<=400)(h3:Ew t=true)(r:Option Int)(hr:Zx t.l left d (Lt t) r):
 Hc 92 [Ah t,.int .i64 left,.int .i64 d] (Pj (jv left r)):=by
 have hb':=(We t).1 hb;have Ke:=A1w t hb'.1 hb'.2.1;rw[h3]at Ke;have a1:¬left<=0:=Aa;have a2:¬400<d:=Aa;have Ik:=fun h=>tv h3 h;have E7:=fun h=>o8 h3 h;have n0eq:Lt t=1+(if Dj t.op=true then(Al t.con:Int)else 0)+(if t.op=8 then(Al t.to:Int)else 0):=rfl;obtain⟨n0,Ns⟩:∃n0,n0=Lt t:=⟨_,rfl⟩;rw[<- Ns]at hr n0eq
 have bc:1<=n0/\n0<=40001:=by
  rw[n0eq];split
  . rename_i h;have:=Ik h;split
    . rename_i h;have:=E7 h;omega
    omega
  split
  . rename_i h;have:=E7 h;omega
  omega
 refine Hf Axf fun Am Q hQ=>?_;have hf:=Zn (c:=t) (by simpa[Bl,Ah,AV.fits]using Am.1);have B5:t.l.length<=1073741824:=by simpa[A1]using hf.2.2.2.2.1
 clear Am hf;simp[-Az,Ah,Aq t];rw[Az];simp[-Az];rw[Az,Az];simp[a1,a2, -Az];refine Ca Ke ?_;clear Ke;simp[-Az];rw[Az];simp[-Az];refine Gc (fun f=>f 8= .int .i64 (1+(if Dj t.op=true then(Al t.con:Int)else 0))) (fun Q' hn hr=>?_) (fun f hI=>?_)
 . simp;refine Ca (xm t.op) ?_;cases hh:Dj t.op
   . simp;refine hn _ Ab ?_;simp[hh]
   have:=Ik hh;simp;refine Ca (k8 t.con Aa) ?_;simp[Au (n:=1+(Al t.con:Int)) Aa Aa];refine hn _ Ab ?_;simp[hh]
 obtain⟨m1,Sf⟩:∃m1:Int,m1=1+(if Dj t.op=true then(Al t.con:Int)else 0):=⟨_,rfl⟩;rw[<- Sf]at hI n0eq;have e1:¬t.op=8->m1=n0:=fun h=>by rw[n0eq,Ac h]; omega
 have e2:t.op=8->m1+(Al t.to:Int)=n0:=fun h=>by rw[n0eq,Ae h]
 clear n0eq Sf;simp[-Az,hI];refine Gc (fun f=>f 8= .int .i64 n0) (fun Q' hn hr=>?_) (fun f hI=>?_)
 . cases hh:decide (t.op=8)
   . have O7:¬t.op=8:=by simpa using hh
     simp[hh];refine hn _ Ab ?_;simp[e1 O7]
   have O7:t.op=8:=by simpa using hh
   have:=E7 O7;have e3:=e2 O7;simp[hh];refine Ca (k8 t.to Aa) ?_;simp[Au (n:=m1+(Al t.to:Int)) Aa Aa];refine hn _ Ab ?_;simp[e3]
 clear Ik E7;simp[hI];refine WL [] (fun n f h G=>∃(k:Nat) (m:Int),k+n=t.l.length/\f 43= .int .i64 k/\f 8= .int .i64 m/\1<=m/\m<=40001/\Zx (t.l.drop k) left d m r) (t.l.length) Ab ⟨0,n0,Ab,rfl,rfl,bc.1,bc.2,by simpa using hr⟩ ?_;rintro n f h G ⟨k,m,hk,h43,h8,Sf,hm2,hM⟩ Q2 Aj;simp[h43,h8];by_cases Af:k<t.l.length
 . have hd:=Ct Af;rw[hd]at hM;have bw:=Au (n:=left-m) Aa Aa;have Ze:=Au (n:=d+1) Aa Aa;simp[Af,bw,Ze]
   cases hM with
   |bad p h1 hp=>
    obtain⟨q,b⟩:=p;simp only at hp;subst hp;refine Ca h1 ?_;simp[Pj];refine Aj (Lr ?_);simp
    exact hQ (by simp[Pj,jv])
   |good p h1 hp h0 hle hl=>
    obtain⟨q,b⟩:=p;simp only at hp h0 hle hl;subst hp;refine Ca h1 ?_;simp[Pj,Au (n:=m+q) Aa Aa,Au (n:=(k:Int)+1) Aa Aa];refine Aj (Ln h ?_);exact⟨k+1,m+q,Aa,Ab,Ab,Aa,Aa,hl⟩
 have hd:t.l.drop k=[]:=Cm Aa;rw[hd]at hM;cases hM;simp[Af];refine Aj (Lx ?_);simp;exact hQ (by simp[Pj,jv])
mutual
def wT:Te->Int
 | .mk o n s c d k ns l=>Lt (.mk o n s c d k ns l)+Hi l
def Hi:List Te->Int
 | []=>0
 |t::l=>wT t+Hi l
end
def ph(t:Te):wT t=Lt t+Hi t.l:=by cases t;rw[wT]; rfl
def Bb5(t:Te):1<=Lt t:=by unfold Lt;split<;>split<;>omega
mutual
def Wg:∀t:Te,1<=wT t
 | .mk o n s c d k ns l=>by
   have h1:=Bb5 (.mk o n s c d k ns l);have h2:=pj l;rw[wT]; omega
def pj:∀l:List Te,0<=Hi l
 | []=>by simp[Hi]
 |t::l=>by
  have h1:=Wg t;have h2:=pj l;rw[Hi]; omega
end
def MsK(t:Te)(left d:Int)(p:Int×Bool):Prop:=(p.2=true->1<=p.1/\p.1<=left/\Ds (401-d).toNat t/\p.1=wT t)/\(Ds (401-d).toNat t->wT t<=left->p.2=true)
def Ahd(h:Nat):∀(l:Na) (left d n:Int),(∀ t∈l,∀left d:Int, -100000<=left->left<=20000->0<=d->d<=1000->∃p,Hc 92 [Ah t,.int .i64 left,.int .i64 d] (Pj p)/\MsK t left d p)->
 1<=n->n<=40001->0<=left->left<=20000->0<=d->d<=400->∃r,Zx l left d n r/\(∀ m,r=some m->n<=m/\(∀ x∈l,Ds (400-d).toNat x)/\m=n+Hi l)/\((∀ x∈l,Ds (400-d).toNat x)->n+Hi l<=left->r≠none)
 | [],left,d,n,_,_,_,_,_,_,_=>⟨some n,.nil _ _ _,fun m hm=>by cases hm;exact⟨eh _,Ab,by simp[Hi]⟩,fun _ _=>Ab⟩
 |t::l,left,d,n,hl,h1,h2,h3,h4,h5,h6=>by
  obtain⟨p,hp,Q8,hp3⟩:=hl t Ab (left-n) (d+1) Aa Aa Aa Aa;have hd:(401-(d+1)).toNat=(400-d).toNat:=Aa;have hw:=pj l;rw[hd]at Q8 hp3;cases hb:p.2
  . refine⟨none,.bad p hp hb,(fun m hm=>by cases hm),fun hx hle=>?_⟩;rw[Hi]at hle;rw[hp3 (hx t Ab) Aa]at hb;cases hb
  obtain⟨g1,g2,g3,g4⟩:=Q8 hb;obtain⟨r,q1,q2,q3⟩:=Ahd h l left d (n+p.1) (fun x hx=>hl x (by simp[hx])) Aa Aa h3 h4 h5 h6;refine⟨r,.good p hp hb Aa g2 q1,fun m hm=>?_,fun hx hle=>?_⟩
  . obtain⟨e1,e2,e3⟩:=q2 m hm;refine⟨Aa,fun x hx=>?_,by rw[Hi]; omega⟩;rcases List.mem_cons.1 hx with rfl|hx
    . exact g3
    exact e2 x hx
  rw[Hi]at hle;exact q3 (fun x hx'=>hx x (by simp[hx'])) Aa
def Adp(f3:Ew t=true):1<=Lt t/\Lt t<=40001:=by
 unfold Lt;split
 . rename_i h;have:=tv f3 h;split
   . rename_i h;have:=o8 f3 h;omega
   omega
 split
 . rename_i h;have:=o8 f3 h;omega
 omega
def A1v(t:Te)(hb:Dg t)(left d:Int)(h1: -100000<=left)(h2:left<=20000)(h3:0<=d)(h4:d<=1000):
 ∃p,Hc 92 [Ah t,.int .i64 left,.int .i64 d] (Pj p)/\MsK t left d p:=by
 have hb':=(We t).1 hb;by_cases hf:left<=0\/400<d\/Ew t=false
 . refine⟨(0,false),Bra t left d hb hf,Ab,fun hk hw=>?_⟩;have:=Wg t;rcases hf with hf|hf|hf
   . omega
   . rw[show(401-d).toNat=0 by omega]at hk;exact hk.elim
   match hh:(401-d).toNat with
   |0=>rw[hh]at hk;exact hk.elim
   |h+1=>rw[hh]at hk;rw[hk.1]at hf;cases hf
 simp only[Jo]at hf;obtain⟨f1,f2,f3⟩:=hf;have f3:Ew t=true:=by simpa using f3
 have bc:=Adp f3;obtain⟨r,hr,Tb,Oj⟩:=Ahd 0 t.l left d (Lt t) (fun x hx l' d' g1 g2 g3 g4=>A1v x (hb'.2.2 x hx) l' d' g1 g2 g3 g4) bc.1 bc.2 Aa h2 h3 Aa;have hs:(401-d).toNat=(400-d).toNat+1:=Aa;have hw:=ph t;refine⟨jv left r,Brb t left d hb Aa h2 h3 Aa f3 r hr,fun h=>?_,fun hk hle=>?_⟩
 . cases r with
   |none=>cases h
   |some m=>
    obtain⟨e1,e2,e3⟩:=Tb m rfl;simp only[jv,Aw]at h ⊢;refine⟨Aa,h,?_,Aa⟩;rw[hs];exact⟨f3,e2⟩
 rw[hs]at hk
 cases r with
 |none=>exact absurd rfl (Oj hk.2 Aa)
 |some m=>
  obtain⟨e1,e2,e3⟩:=Tb m rfl;simp only[jv,Aw];omega
termination_by SizeOf.sizeOf t
decreasing_by exact Te.lt_l ‹_›
def d8(t:Te)(hb:Dg t):∃b,Hc 24 [Ah t] (.bool b)/\(b=true↔Ds 400 t/\wT t<=20000):=by
 obtain⟨⟨n,b⟩,hp,Q8,hp3⟩:=A1v t hb 20000 1 Aa Aa Aa Aa;refine⟨b,?_,fun h=>?_,fun h=>hp3 h.1 h.2⟩
 case refine_2=>
  obtain⟨g1,g2,g3,g4⟩:=Q8 h;exact⟨g3,Aa⟩
 clear Q8 hp3;refine Hg Bjc fun Q hQ=>?_;simp[Ah];refine Ca hp ?_;simp[Pj];exact hQ
def w1(n:Int):Int:=IntKind.i64.wrap n
def Hd(op part c t:Int):Int×Int:=if op=6 then(w1 (c+1),t)else if op=4\/op=16 then(c,w1 (t+1))else if op=17 then(c,w1 (t+(if 1<part then 1 else part)))else
 if op=9 then(w1 (c+part),w1 (t+part))else if op=13 then(c,w1 (t+(if 1<part then 1 else part)))else(c,t)
def A1u(x:Te)(part c t:Int):Hc 246 [C2 c t,Ah x,.int .i64 part] (C2 (Hd x.op part c t).1 (Hd x.op part c t).2):=by
 refine Hg Bjv fun Q hQ=>?_;have hm:∀p:Int,(if 1<p then(1:Int)else p)=if p<=1 then p else 1:=fun p=>by split<;>split<;>omega
 by_cases h6:x.op=6
 . simp[C2,Ah,Aq x,h6];exact hQ (by simp[Hd,C2,h6,w1])
 by_cases h4:x.op=4
 . simp[C2,Ah,Aq x,h4];exact hQ (by simp[Hd,C2,h4,w1])
 by_cases Yv:x.op=16
 . simp[C2,Ah,Aq x,Yv];exact hQ (by simp[Hd,C2,Yv,w1])
 by_cases R5:x.op=17
 . simp[C2,Ah,Aq x,R5,Xx,Uz];exact hQ (by simp[Hd,C2,R5,w1])
 by_cases h9:x.op=9
 . simp[C2,Ah,Aq x,h9];exact hQ (by simp[Hd,C2,h9,w1])
 by_cases Hn:x.op=13
 . simp[C2,Ah,Aq x,Hn,Xx,Uz];exact hQ (by simp[Hd,C2,Hn,w1])
 simp[C2,Ah,Aq x,h6,h4,Yv,R5,h9,Hn];exact hQ (by simp[Hd,C2,h6,h4,Yv,R5,h9,Hn])
def Cj:Te:=.mk 0 0 [] A3 A3 (.mk []) [] []
def Va(o n:Int)(s:Bu)(c d:Cn)(k:Kd)(names:List Bu)(l:Na):Bi (.mk o n s c d k names l)=[.int .i64 o,.int .i64 n,.str s,.int .i64 c.op,.int .i64 c.n,.str c.s,.sl .none (c.k.l.map Ak),.sl .none (At c.names),.sl .none (c.l.map Ag),
 .int .i64 d.op,.int .i64 d.n,.str d.s,.sl .none (d.k.l.map Ak),.sl .none (At d.names),.sl .none (d.l.map Ag),.sl .none (k.l.map Ak),.sl .none (At names),.sl .none (l.map Bi)]:=by rw[Aq]; rfl
def Km:Bi Cj=[.int .i64 0,.int .i64 0,.str [],.int .i64 0,.int .i64 0,.str [],.sl .none [],.sl .none [],.sl .none [],.int .i64 0,.int .i64 0,.str [],.sl .none [],.sl .none [],.sl .none [],.sl .none [],.sl .none [],.sl .none []]:=by
 rw[Cj,Va]; rfl
mutual
def Mt(f:Cn->Int->Int->Cn×Int)(g:Int->Int->Int->Te×Int):Te->Int->Int->Te×Int
 | .mk op n s con tto k ns l,c,t=>if op=1 then g n c t else
   if Dj op=true/\(f con c t).2≠0 then(Cj,(f con c t).2)else
   if op=8/\(f tto c t).2≠0 then(Cj,(f tto c t).2)else
   if(J7 f g op l 0 c t).2≠0 then(Cj,(J7 f g op l 0 c t).2)else
   (.mk op n s (if Dj op=true then(f con c t).1 else A3) (if op=8 then(f tto c t).1 else A3) k ns (J7 f g op l 0 c t).1,0)
def J7(f:Cn->Int->Int->Cn×Int)(g:Int->Int->Int->Te×Int)(op:Int):List Te->Nat->Int->Int->List Te×Int
 | [],_,_,_=>([],0)
 |x::xs,i,c,t=>if(Mt f g x (Hd op i c t).1 (Hd op i c t).2).2≠0 then([],(Mt f g x (Hd op i c t).1 (Hd op i c t).2).2)else
  ((Mt f g x (Hd op i c t).1 (Hd op i c t).2).1::(J7 f g op xs (i+1) c t).1,(J7 f g op xs (i+1) c t).2)
end
def A64(f:Cn->Int->Int->Cn×Int)(g:Int->Int->Int->Te×Int)(x:Te)(c t:Int):Mt f g x c t=if x.op=1 then g x.n c t else
 if Dj x.op=true/\(f x.con c t).2≠0 then(Cj,(f x.con c t).2)else
 if x.op=8/\(f x.to c t).2≠0 then(Cj,(f x.to c t).2)else
 if(J7 f g x.op x.l 0 c t).2≠0 then(Cj,(J7 f g x.op x.l 0 c t).2)else
 (.mk x.op x.n x.s (if Dj x.op=true then(f x.con c t).1 else A3) (if x.op=8 then(f x.to c t).1 else A3) x.k x.names (J7 f g x.op x.l 0 c t).1,0):=by
 cases x;rw[Mt]; rfl
def Ac1{h:Nat}{x:Te}(ht:Ds (h+1) x){i:Nat}(hi:i<x.l.length){c t:Int}(h0:0<=c)(h1:0<=t)(h2:c<=10000)(h3:t<=10000):0<=(Hd x.op i c t).1/\(Hd x.op i c t).1<=c+1/\0<=(Hd x.op i c t).2/\(Hd x.op i c t).2<=t+1:=by
 have hl:x.op=9->x.l.length=2:=fun h9=>by
  have hn:=ht.1;simp only[Ew,Bb]at hn;have h1:=hn.1;simp only[Zg,Mn,ef,Agu,Aw]at h1;have:=h1.2.2.2.1;simp[dj,h9]at this;omega
 have hm:(if(1:Int)<i then(1:Int)else i)=0\/(if(1:Int)<i then(1:Int)else i)=1:=by
  by_cases h:i=0
  . left;subst h;simp
  right;split
  . rfl
  omega
 unfold Hd w1;split
 . simp only;rw[Au Aa Aa]; omega
 split
 . simp only;rw[Au Aa Aa]; omega
 split
 . simp only;rcases hm with e|e<;>rw[e,Au Aa Aa]<;>omega
 split
 . rename_i h9;have:=hl h9;simp only;rw[Au Aa Aa,Au Aa Aa]; omega
 split
 . simp only;rcases hm with e|e<;>rw[e,Au Aa Aa]<;>omega
 simp only;omega
structure Chg (m1 m2:Nat) (p1 p2:List AV) (A:List HB) (f:Cn->Int->Int->Cn×Int) (g:Int->Int->Int->Te×Int):Prop where
 con:∀(c:Cn) (a b:Int),Ar c=true->0<=a->0<=b->a<=1000->b<=1000->HP m1 ([Ad c,C2 a b]++p1) A (Bf (f c a b)) A
 var:∀(n a b:Int),0<=n->n<=20000->0<=a->0<=b->a<=1000->b<=1000->HP m2 ([.int .i64 n,C2 a b]++p2) A (Cf (g n a b)) A
 vars:∀b,b<A.length->∃cs,A[b]? =some (.var cs)
 sc:∀n,A.length<=n->Be n A=true
 c1:∀n,A.length<=n->A0 n p1=true
 c2:∀n,A.length<=n->A0 n p2=true
def T9(m1 m2:Nat)(p1 p2:List AV):AV:=.agg [.fn (.func m1) [] p1,.fn (.func m2) [] p2]
def Arv{a1 a2 a3 a4 a5 a6:AV}{c:Cn}(h:Ce [a1,a2,a3,a4,a5,a6]=Ag c):a1.strip= .int .i64 c.op/\a2.strip= .int .i64 c.n/\a3.strip= .str c.s/\a4.strip= .sl .none (c.k.l.map Ak)/\a5.strip= .sl .none (At c.names)/\a6.strip= .sl .none (c.l.map Ag):=by
 rw[Ap]at h;simpa[Ce]using h
def C6.zero:C6:=⟨.int .i64 0,.int .i64 0,.str [],.sl .nilT [],.sl .nilT [],.sl .nilT []⟩
def C6.of(c:Cn):C6:=⟨.int .i64 c.op,.int .i64 c.n,.str c.s,.sl .none (c.k.l.map Ak),.sl .none (At c.names),.sl .none (c.l.map Ag)⟩
def Bq5(m1 m2:Nat)(p1 p2:Ao)(A:Ai)(f:Cn->Int->Int->Cn×Int)(g:Int->Int->Int->Te×Int)(hC:Chg m1 m2 p1 p2 A f g)
 (h:Nat) (x:Te) (c t:Int) (ht:Ds (h+1) x) (h0:0<=c) (h1:0<=t) (hc:c+(h+1:Nat)<=1000) (hd:t+(h+1:Nat)<=1000)
 (A6:∀y∈x.l,∀c t:Int,0<=c->0<=t->c+h<=1000->t+h<=1000->HP 180 [T9 m1 m2 p1 p2,Ah y,C2 c t] A (Cf (Mt f g y c t)) A):
 HP 180 [T9 m1 m2 p1 p2,Ah x,C2 c t] A (Cf (Mt f g x c t)) A:=by
 have Jk:=hC.sc A.length (Bm _);have Q1:=hC.c1 A.length (Bm _);have Of:=hC.c2 A.length (Bm _);have H8:=hC.vars;have key:=A64 f g x c t;obtain⟨De,hn2,P8⟩:=ct ht.1;have ng:∀i,i<x.l.length->_:=fun i hi=>Ac1 ht hi h0 h1 Aa Aa;refine Hf Bje fun Am Q hQ=>?_;have hf:=Zn (c:=x) (by simpa[Bl,Ah,AV.fits]using Am.2.1);have B5:x.l.length<=1073741824:=by simpa[A1]using hf.2.2.2.2.1
 clear Am hf;simp[-Az,T9,C2,Ah,Aq x];rw[Az];simp[-Az];rw[Az,Az];by_cases Iv:x.op=1
 . rw[Ae Iv]at key;obtain⟨g0,g1⟩:=P8 Iv;have hgv:=fun L=>(hC.var x.n c t g0 g1 h0 h1 Aa Aa).suffix rfl (by simp[A0,Of,C2]) Jk L;generalize g x.n c t=q at key hgv;obtain⟨y,e⟩:=q;simp[Iv];refine N5 (first:=[]) (r:=Cf (y,e)) (by simpa[C2]using hgv [_,_,_,_]) ?_;simp[Cf,Ah,Aq y];exact hQ (by simp[key,Cf,Ah,Aq y,Jk])
 rw[Ac Iv]at key;simp[Iv, -Az];rw[Az];refine Wd ?_;simp[-Az];refine Da (dy x.names) ?_;simp[-Az];rw[Az];simp[-Az];refine ly (ι:=C6) (fun z=>A++[.var [.fn (.func m1) [] p1,.fn (.func m2) [] p2],.var [.int .i64 x.op,.int .i64 x.n,.str x.s,.int .i64 x.con.op,.int .i64 x.con.n,.str x.con.s,.sl .none (x.con.k.l.map Ak),.sl .none (At x.con.names),.sl .none (x.con.l.map Ag),.int .i64 x.to.op,.int .i64 x.to.n,.str x.to.s,.sl .none (x.to.k.l.map Ak),.sl .none (At x.to.names),.sl .none (x.to.l.map Ag),.sl .none (x.k.l.map Ak),.sl .none (At x.names),.sl .none (x.l.map Bi)],.var [.int .i64 c,.int .i64 t],.var [.int .i64 0,.int .i64 0,.str [],.int .i64 0,.int .i64 0,.str [],.sl .nilT [],.sl .nilT [],.sl .nilT [],.int .i64 0,.int .i64 0,.str [],.sl .nilT [],.sl .nilT [],.sl .nilT [],.sl .nilT [],.sl .nilT [],.sl .nilT []],.var [.int .i64 x.op,.int .i64 x.n,.str x.s,z.a,z.b,z.c,z.d,z.e,z.f,.int .i64 0,.int .i64 0,.str [],.sl .nilT [],.sl .nilT [],.sl .nilT [],.sl .none (x.k.l.map Ak),.sl .none (At x.names),.sl .nilT []]]) (fun z f'=>f' 9= .int .i64 0/\¬(Dj x.op=true/\(f x.con c t).2≠0)/\Ce z.l=Ag (if Dj x.op=true then(f x.con c t).1 else A3)/\z.l.all AV.isCell=true) ?_ ?_
 . intro Q' hn hr;rw[Az];simp[-Az];refine Ca (xm x.op) ?_;cases hh:Dj x.op
   . simp;refine hn C6.zero _ Ab ?_;exact⟨Ab,by simp[hh],by simp[C6.l,C6.zero,hh,E9,Ce,AV.strip],by simp[C6.l,C6.zero,AV.isCell]⟩
   have hcon:=fun L=>(hC.con x.con c t (De hh) h0 h1 Aa Aa).suffix rfl (by simp[A0,Q1,C2]) Jk L;generalize f x.con c t=q at key hcon hn ⊢;obtain⟨y,e⟩:=q;simp;refine N5 (first:=[]) (r:=Bf (y,e)) (by simpa[C2,Ad,Ap x.con]using hcon [_,_,_,_,_]) ?_;simp[Bf,Ad,Ap y];by_cases he:e=0
   . simp[he];refine hn (C6.of y) _ Ab ?_;exact⟨Ab,by simp[he],by simp[C6.l,C6.of,hh,Ap y,Ce,AV.strip],by simp[C6.l,C6.of,AV.isCell]⟩
   have he':(e != 0)=true:=by simpa using he
   have k2:Mt f g x c t=(Cj,e):=by rw[key,Ae ⟨hh,he⟩]
   simp[he];refine hr _ _ ?_;simp;exact hQ (by simp[k2,Cf,Ah,Km,Jk])
 intro z f' hI;have hI9:=hI.1;have hI1:=hI.2.1;have hsa:=hI.2.2.1;have Uh:z.a.isCell=true/\z.b.isCell=true/\z.c.isCell=true/\z.d.isCell=true/\z.e.isCell=true/\z.f.isCell=true:=by simpa[C6.l,and_assoc]using hI.2.2.2
 clear hI;rw[Ac hI1]at key;generalize (if Dj x.op=true then(f x.con c t).1 else A3)=y1 at hsa key;clear hI1 De;simp[-Az,hI9];refine ly (ι:=C6) (fun y=>A++[.var [.fn (.func m1) [] p1,.fn (.func m2) [] p2],.var [.int .i64 x.op,.int .i64 x.n,.str x.s,.int .i64 x.con.op,.int .i64 x.con.n,.str x.con.s,.sl .none (x.con.k.l.map Ak),.sl .none (At x.con.names),.sl .none (x.con.l.map Ag),.int .i64 x.to.op,.int .i64 x.to.n,.str x.to.s,.sl .none (x.to.k.l.map Ak),.sl .none (At x.to.names),.sl .none (x.to.l.map Ag),.sl .none (x.k.l.map Ak),.sl .none (At x.names),.sl .none (x.l.map Bi)],.var [.int .i64 c,.int .i64 t],.var [.int .i64 0,.int .i64 0,.str [],.int .i64 0,.int .i64 0,.str [],.sl .nilT [],.sl .nilT [],.sl .nilT [],.int .i64 0,.int .i64 0,.str [],.sl .nilT [],.sl .nilT [],.sl .nilT [],.sl .nilT [],.sl .nilT [],.sl .nilT []],.var [.int .i64 x.op,.int .i64 x.n,.str x.s,z.a,z.b,z.c,z.d,z.e,z.f,y.a,y.b,y.c,y.d,y.e,y.f,.sl .none (x.k.l.map Ak),.sl .none (At x.names),.sl .nilT []]]) (fun y f'=>¬(x.op=8/\(f x.to c t).2≠0)/\Ce y.l=Ag (if x.op=8 then(f x.to c t).1 else A3)/\y.l.all AV.isCell=true) ?_ ?_
 . intro Q' hn hr;rw[Az];simp[-Az];cases hh:decide (x.op=8)
   . have O7:¬x.op=8:=by simpa using hh
     simp;refine hn C6.zero _ Ab ?_;exact⟨by simp[O7],by simp[C6.l,C6.zero,O7,E9,Ce,AV.strip],by simp[C6.l,C6.zero,AV.isCell]⟩
   have O7:x.op=8:=by simpa using hh
   have hcon:=fun L=>(hC.con x.to c t (hn2 O7) h0 h1 Aa Aa).suffix rfl (by simp[A0,Q1,C2]) Jk L;generalize f x.to c t=q at key hcon hn ⊢;obtain⟨y,e⟩:=q;simp;refine N5 (first:=[]) (r:=Bf (y,e)) (by simpa[C2,Ad,Ap x.to]using hcon [_,_,_,_,_]) ?_;simp[Bf,Ad,Ap y];by_cases he:e=0
   . simp[he];refine hn (C6.of y) _ Ab ?_;exact⟨by simp[he],by simp[C6.l,C6.of,O7,Ap y,Ce,AV.strip],by simp[C6.l,C6.of,AV.isCell]⟩
   have he':(e != 0)=true:=by simpa using he
   have k2:Mt f g x c t=(Cj,e):=by rw[key,Ae ⟨O7,he⟩]
   simp[he];refine hr _ _ ?_;simp;exact hQ (by simp[k2,Cf,Ah,Km,Jk])
 intro v f'' hI;have hI1:=hI.1;have hsb:=hI.2.1;have Gy:v.a.isCell=true/\v.b.isCell=true/\v.c.isCell=true/\v.d.isCell=true/\v.e.isCell=true/\v.f.isCell=true:=by simpa[C6.l,and_assoc]using hI.2.2
 clear hI;rw[Ac hI1]at key;generalize (if x.op=8 then(f x.to c t).1 else A3)=y2 at hsb key;clear hI1 hn2;simp;have hsa:=Arv (a1:=z.a) (a2:=z.b) (a3:=z.c) (a4:=z.d) (a5:=z.e) (a6:=z.f) hsa;have hsb:=Arv (a1:=v.a) (a2:=v.b) (a3:=v.c) (a4:=v.d) (a5:=v.e) (a6:=v.f) hsb
 refine Ip (A9.loopI [A.length+4] (fun n f' h G=>∃(k:Nat) (tok:Dh) (P:Na),k+n=x.l.length/\P.length=k/\f' 74= .int .i64 k/\
  h (A.length+4)=[.int .i64 x.op,.int .i64 x.n,.str x.s,z.a,z.b,z.c,z.d,z.e,z.f,v.a,v.b,v.c,v.d,v.e,v.f,.sl .none (x.k.l.map Ak),.sl .none (At x.names),.sl tok (P.map Bi)]/\
  owns (A.length+5) G tok (P.map Bi) 18/\(J7 f g x.op (x.l.drop k) k c t).2=(J7 f g x.op x.l 0 c t).2/\P++(J7 f g x.op (x.l.drop k) k c t).1=(J7 f g x.op x.l 0 c t).1) x.l.length Ab ⟨0,.nilT,[],Ab,rfl,rfl,by simp[Fs],Fp _ _ _,rfl,rfl⟩ ?_)
 rintro n f3 h' G ⟨k,tok,P,hk,hP,h74,ho',Bt,Dq,Dz⟩;refine Ru fun Q2 Aj=>?_;simp[h74,ho'];by_cases Af:k<x.l.length
 . have Fz:=Ct Af;obtain⟨i1,i2,i3,i4⟩:=ng k Af;have hcall:=fun L=>(A6 x.l[k] (Cy _) (Hd x.op k c t).1 (Hd x.op k c t).2 i1 i3 Aa Aa).suffix rfl (by simp[A0,Q1,Of,T9,C2,AV.inScope]) Jk L;have Sb:=A1u x k c t;rw[Fz,J7]at Dz Dq;generalize Hd x.op k c t=u at hcall Sb Dz Dq;generalize Mt f g x.l[k] u.1 u.2=p at Dz Dq hcall;obtain⟨y,e⟩:=p;simp only at Dz Dq;simp[Af];refine Gr (fun _=>true) [] Bc Bc ?_;simp;refine Da Sb ?_ (ha:=by simp[C2]);simp[C2];refine py (r:=Cf (y,e)) (fun H hH=>?_) ?_
   . obtain⟨M,rfl⟩:=vh H8 (fun _ _=>rfl) hH;simpa[Ah,T9,C2]using hcall M
   simp[Cf,Ah];refine⟨fun b cs _ hb=>by simpa using E4 (L:=[_]) hb,?_⟩;by_cases hz:e=0
   . rw[Ac (by simpa using hz)]at Dz Dq;simp only at Dz Dq;simp[hz,Dx];refine Tw (A++[_,_,_,_,_]) (G++[_,_]) (by simp only[Ow,Gb,Gx]; rfl) (by simpa using Lv Bt) (by simp[A1]; omega) (Ea _ _ o0) Ab fun tok' G' Bv Ei=>?_;simp[Au (n:=(k:Int)+1) Aa Aa];refine Aj (Fo (n-1) (fun _=>[.int .i64 x.op,.int .i64 x.n,.str x.s,z.a,z.b,z.c,z.d,z.e,z.f,v.a,v.b,v.c,v.d,v.e,v.f,.sl .none (x.k.l.map Ak),.sl .none (At x.names),.sl tok' ((P++[y]).map Bi)]) (G':=G') Ab Aa Ab ?_);exact⟨k+1,tok',P++[y],Aa,by simp[hP],Ab,rfl,by simpa using Bv,Dq,by rw[<- Dz]; simp⟩
   rw[Ae hz]at Dz Dq;simp only at Dz Dq;have Qc:(e != 0)=true:=by simpa using hz
   have e1:Mt f g x c t=(Cj,e):=by rw[key,<-Dq,Ae hz]
   simp[hz];refine Aj (Lr ?_);simp;exact hQ (by simp[e1,Cf,Ah,Km,Jk])
 have R7:P=(J7 f g x.op x.l 0 c t).1:=by rw[<- Dz,Cm Aa]; simp[J7]
 have Ij:(J7 f g x.op x.l 0 c t).2=0:=by rw[<- Dq,Cm Aa]; rfl
 rw[Ac (by simpa using Ij),<-R7]at key;simp only[AV.isCell]at Uh Gy;simp[Af];refine Aj (Lx ?_);simp[Uh,Gy];exact hQ (by simp[key,Cf,Ah,Va,Jk,hsa,hsb])
def Af5(m1 m2:Nat)(p1 p2:Ao)(A:Ai)(f:Cn->Int->Int->Cn×Int)(g:Int->Int->Int->Te×Int)(hC:Chg m1 m2 p1 p2 A f g):
 ∀(h:Nat) (x:Te) (c t:Int),Ds h x->0<=c->0<=t->c+h<=1000->t+h<=1000->HP 180 [T9 m1 m2 p1 p2,Ah x,C2 c t] A (Cf (Mt f g x c t)) A
 |0,_,_,_,ht,_,_,_,_=>ht.elim
 |h+1,x,c,t,ht,h0,h1,hc,hd=>Bq5 m1 m2 p1 p2 A f g hC h x c t ht h0 h1 hc hd fun y hy c t g0 g1 g2 g3=>Af5 m1 m2 p1 p2 A f g hC h y c t (ht.2 y hy) g0 g1 g2 g3
def A7g{c:Cn}(h:Gd c A3=true):Al c=1:=by
 rw[md]at h;simp only[Bb]at h
 have hl:c.l=[]:=by
  have:=h.2
  cases hc:c.l with
  |nil=>rfl
  |cons x xs=>rw[hc]at this;simp[A3,Cn.l,Cs]at this
 rw[Ir,hl]; rfl
def Av5(h:Ew t=true)(ho:¬Dj t.op=true):Gd t.con A3=true:=by
 simp only[Ew,Bb]at h;have:=h.2.2.1;rwa [P0,Ac ho]at this
def Av6(h:Ew t=true)(ho:¬t.op=8):Gd t.to A3=true:=by
 simp only[Ew,Bb]at h;have:=h.2.2.2;rwa [P0,Ac (by simpa using ho)]at this
def Tg:∀(h:Nat) (t:Te),Ds h t->Dg t
 |0,_,h=>h.elim
 |h+1,t,ht=>by
  obtain⟨h1,h2⟩:=ht;rw[We];have hz:∀c:Cn,Gd c A3=true->Al c<=1000000000000:=fun c hc=>by rw[A7g hc]; decide
  refine⟨?_,?_,fun x hx=>Tg h x (h2 x hx)⟩
  . by_cases ho:Dj t.op=true
    . have:=tv h1 ho;omega
    exact hz _ (Av5 h1 ho)
  by_cases ho:t.op=8
  . have:=o8 h1 ho;omega
  exact hz _ (Av6 h1 ho)
mutual
def Abh(f:Cn->Int->Int->Cn×Int)(g:Int->Int->Int->Te×Int)(hf:∀c a b,Al (f c a b).1<=1000000000000)(hg:∀n a b,Dg (g n a b).1):∀(x:Te) (c t:Int),Dg (Mt f g x c t).1
 | .mk op n s con tto k ns l,c,t=>by
   have hz:Dg Cj:=by rw[Cj,Dg]; exact⟨Di,Di,Ab⟩
   rw[Mt];split
   . exact hg _ _ _
   split
   . exact hz
   split
   . exact hz
   split
   . exact hz
   rw[Dg];refine⟨?_,?_,Arl f g hf hg op l 0 c t⟩
   . split
     . exact hf _ _ _
     decide
   split
   . exact hf _ _ _
   decide
def Arl(f:Cn->Int->Int->Cn×Int)(g:Int->Int->Int->Te×Int)(hf:∀c a b,Al (f c a b).1<=1000000000000)(hg:∀n a b,Dg (g n a b).1)(op:Int):∀(l:List Te) (i:Nat) (c t:Int),∀y∈(J7 f g op l i c t).1,Dg y
 | [],_,_,_=>by simp[J7]
 |x::xs,i,c,t=>by
  have h1:=Abh f g hf hg x (Hd op i c t).1 (Hd op i c t).2;have h2:=Arl f g hf hg op xs (i+1) c t;rw[J7];split
  . simp
  intro y hy;rcases List.mem_cons.1 hy with rfl|hy
  . exact h1
  exact h2 y hy
end
def Nz(n:Int):Te:=.mk 1 n [] A3 A3 (.mk []) [] []
def Af4(n:Int):Bi (Nz n)=[.int .i64 1,.int .i64 n,.str [],.int .i64 0,.int .i64 0,.str [],.sl .none [],.sl .none [],.sl .none [],.int .i64 0,.int .i64 0,.str [],.sl .none [],.sl .none [],.sl .none [],.sl .none [],.sl .none [],.sl .none []]:=by
 rw[Nz,Va]; rfl
def A1o(n:Int):Dg (Nz n):=by rw[Nz,Dg]; exact⟨Di,Di,Ab⟩
def A1r(t:Te)(e:Int)(hb:Dg t):∃p,Hc 176 [Ah t,.int .i64 e] (Cf p)/\(p.2=0->Ds 400 p.1)/\(p.2≠0->p.1=Cj)/\(p.2=0->p.1=t/\wT t<=20000/\e=0)/\(p.2=0\/p.2=6):=by
 obtain⟨b,hv,hok⟩:=d8 t hb;by_cases he:e=0
 . cases b with
   |true=>
    refine⟨(t,0),?_,fun _=>(hok.1 rfl).1,Ab,fun _=>⟨rfl,(hok.1 rfl).2,he⟩,.inl rfl⟩;refine Hg Aec fun Q hQ=>?_;simp[Ah,Aq t,he];refine Ca hv ?_;simp
    exact hQ (by simp[Cf,Ah,Aq t])
   |false=>
    refine⟨(Cj,6),?_,Ab,Ab,Ab,.inr rfl⟩;refine Hg Aec fun Q hQ=>?_;simp[Ah,Aq t,he];refine Ca hv ?_;simp;exact hQ (by simp[Cf,Ah,Km])
 have he':(e != 0)=true:=by simpa using he
 refine⟨(Cj,6),?_,Ab,Ab,Ab,.inr rfl⟩;refine Hg Aec fun Q hQ=>?_;simp[Ah,Aq t,he];exact hQ (by simp[Cf,Ah,Km])
def A1t(n:Int):Hc 182 [.int .i64 n] (.bool (decide (-20000<=n)&&decide (n<=20000))):=by
 refine Hg Bjk fun Q hQ=>?_;simp
 repeat' (first |(refine C3 (fun hb=>?_) (fun hb=>?_)<;>(try simp only[bN]at hb)<;>simp[hb])|(refine Em (fun hb=>?_) (fun hb=>?_)<;>(try simp only[bN]at hb)<;>simp[hb]))
 all_goals exact hQ
def Brh(c:Cn)(a b d:Int)(A:Ai)(i:Nat)(hi:A[i]? =some (.var [.int .i64 d]))(A8:Be A.length A=true)(hc:Ar c=true)(h0:0<=d)(h1:d<=20000)(h2:0<=a)(h3:a<=1000):
 HP 251 [Ad c,C2 a b,.ptr i 0] A (Bf (Ed c d a)) A:=by
 have Jj:=(List.getElem?_eq_some_iff.1 hi).1;have Fa:∀L:Ai,(A++L)[i]? =some (.var [.int .i64 d]):=fun L=>by rw[D5 Jj]; exact hi
 have Br:=Zp c d a (by have:=Kn hc;omega) h0 h1 h2 Aa;generalize Ed c d a=p at Br ⊢;obtain⟨y,e⟩:=p;refine Hg Bjs fun Q hQ=>?_;simp[Ad,Ap c,C2,Fa];refine Ca Br ?_;simp[Bf,Ad,Ap y];exact hQ (by simp[Bf,Ad,Ap y,A8])
def Bri(n a b d:Int)(A:Ai)(i:Nat)(hi:A[i]? =some (.var [.int .i64 d]))(A8:Be A.length A=true):
 HP 252 [.int .i64 n,C2 a b,.ptr i 0] A (Cf (Nz (if b<=n then IntKind.i64.wrap (n+d)else n),0)) A:=by
 have Jj:=(List.getElem?_eq_some_iff.1 hi).1;have Fa:∀L:Ai,(A++L)[i]? =some (.var [.int .i64 d]):=fun L=>by rw[D5 Jj]; exact hi
 refine Hg Bjt fun Q hQ=>?_;simp[C2];by_cases h:b<=n
 . simp[h,Fa];exact hQ (by simp[h,Cf,Ah,Af4,A8])
 simp[h];exact hQ (by simp[h,Cf,Ah,Af4,A8])
def Brj(d1 d2:Int)(A:Ai)(A8:∀n,A.length<=n->Be n A=true):HP 183 [.int .i64 d1,.int .i64 d2] A
 (T9 251 252 [.ptr A.length 0] [.ptr (A.length+1) 0]) (A++[.var [.int .i64 d1],.var [.int .i64 d2]]):=by
 have a1:=A8 (A.length+2) Aa;refine Hg Bjr fun Q hQ=>?_;simp;exact hQ (by simp[T9,a1,Nh])
def Bo9(d1 d2:Int)(h0:0<=d1)(h1:d1<=20000)(A:Ai)(i j:Nat)(hi:A[i]? =some (.var [.int .i64 d1]))(hj:A[j]? =some (.var [.int .i64 d2]))(hv:∀b,b<A.length->∃cs,A[b]? =some (.var cs))(hs:∀n,A.length<=n->Be n A=true):
 Chg 251 252 [.ptr i 0] [.ptr j 0] A (fun c a _=>Ed c d1 a) (fun n _ b=>(Nz (if b<=n then IntKind.i64.wrap (n+d2)else n),0)) where
 con c a b hc g0 _ g1 _:=Brh c a b d1 A i hi (hs _ (Bm _)) hc h0 h1 g0 g1
 var n a b _ _ _ _ _ _:=Bri n a b d2 A j hj (hs _ (Bm _))
 vars:=hv
 sc:=hs
 c1 n hn:=by
  have:=(List.getElem?_eq_some_iff.1 hi).1;simp[A0,AV.inScope]; omega
 c2 n hn:=by
  have:=(List.getElem?_eq_some_iff.1 hj).1;simp[A0,AV.inScope]; omega
mutual
def rp(l:List Cn):Cn->Int->Cn
 | .mk o n s k ns cl,d=>if o=1 then(if IntKind.i64.wrap (n-d)<0 then .mk o n s k ns cl else
  match l[(IntKind.i64.wrap (n-d)).toNat]? with
  |some x=>if(Ny x d 0).2≠0 then A3 else(Ny x d 0).1
  |none=>.mk o (IntKind.i64.wrap (n-l.length)) s k ns cl)
  else .mk o n s k ns (U7 l cl (if Bw o=true then d+1 else d))
def U7(l:List Cn):List Cn->Int->List Cn
 | [],_=>[]
 |x::xs,d=>rp l x d::U7 l xs d
end
def rp_eq(l:Ax)(c:Cn)(d:Int):rp l c d=if c.op=1 then(if IntKind.i64.wrap (c.n-d)<0 then c else
 match l[(IntKind.i64.wrap (c.n-d)).toNat]? with
 |some x=>if(Ny x d 0).2≠0 then A3 else(Ny x d 0).1
 |none=>.mk c.op (IntKind.i64.wrap (c.n-l.length)) c.s c.k c.names c.l)
 else .mk c.op c.n c.s c.k c.names (U7 l c.l (if Bw c.op=true then d+1 else d)):=by
 cases c;rw[rp]; rfl
mutual
def Az8(l:List Cn):∀(c:Cn) (d:Int),Al (rp l c d)<=20000*Al c
 | .mk o n s k ns cl,d=>by
   have h:=Az9 l cl (if Bw o=true then d+1 else d);rw[rp];split
   . split
     . simp only[Al]; omega
     split
     . rename_i x _;have:=A0v (c:=x) (d:=d) (fr:=0);split
       . simp only[A3,Al,Bd]; omega
       simp only[Al]; omega
     simp only[Al]; omega
   simp only[Al]; omega
def Az9(l:List Cn):∀(cs:List Cn) (d:Int),Bd (U7 l cs d)<=20000*Bd cs
 | [],_=>by simp[U7,Bd]
 |c::cs,d=>by
  have h1:=Az8 l c d;have h2:=Az9 l cs d;rw[U7];simp only[Bd]; omega
end
def Brg(l:Ax)(hz:∀x∈l,Al x<=1000000000000)(c:Cn)(d:Int)(h0:0<=d)(hd:d+Bo c<=10000000)
 (A6:∀x∈c.l,∀d:Int,0<=d->d+Bo x<=10000000->Hc 178 [Ad x,.sl .none (l.map Ag),.int .i64 d] (Ad (rp l x d))):
 Hc 178 [Ad c,.sl .none (l.map Ag),.int .i64 d] (Ad (rp l c d)):=by
 have Xm:=Jt c;have key:=rp_eq l c d
 have hB:(Bw c.op=false/\(if Bw c.op=true then d+1 else d)=d)\/(Bw c.op=true/\(if Bw c.op=true then d+1 else d)=d+1):=by
  cases Bw c.op<;>simp
 generalize (if Bw c.op=true then d+1 else d)=ub at key hB;refine Hf Bjq fun Am Q hQ=>?_;have hf:=Mv (c:=c) (by simpa[Bl,Ad,AV.fits]using Am.1);have B5:c.l.length<=1073741824:=hf.2.2.2.2.2.2.2.1;have Dw:l.length<=1073741824:=by simpa[Bl,AV.fits,A1]using Am.2.1.1
 clear Am hf;simp[-Az,Ad,Ap c];rw[Az];simp[-Az];by_cases h1:c.op=1
 . rw[Ae h1]at key;by_cases h2:IntKind.i64.wrap (c.n-d)<0
   . rw[Ae h2]at key;simp[h1,h2];exact hQ (by simp[key,Ad,Ap c,h1])
   rw[Ac h2]at key;obtain⟨j,hj⟩:∃j:Nat,IntKind.i64.wrap (c.n-d)=j:=⟨_,(yc Aa).symm⟩;have M5:¬((j:Int)<0):=Aa;rw[hj,p8]at key;by_cases h3:j<l.length
   . rw[Il h3]at key;simp only at key;have Br:=A15 l[j] d 0 (hz _ (Cy _)) h0 Aa Aa Aa;generalize Ny l[j] d 0=p at key Br;obtain⟨r,e⟩:=p;simp only at key;simp[h1,hj,M5,h3];refine Ca Br ?_;simp[Bf,Ad,Ap r];by_cases he:e=0
     . rw[Ac (by simpa using he)]at key;simp[he];exact hQ (by simp[key,Ad,Ap r])
     rw[Ae he]at key;have he':(e != 0)=true:=by simpa using he
     simp[he];exact hQ (by simp[key,Ad,E9])
   rw[Im Aa]at key;simp only at key;simp[h1,hj,M5,h3];exact hQ (by simp[key,Ad,Fj,h1])
 rw[Ac h1]at key;have hbe:(c.op==1)=false:=by simpa using h1
 rw[Az,Az];simp[-Az,h1];rw[Az];refine Wd ?_;simp[-Az];refine Da (dy c.names) ?_;simp[-Az];refine Gc (fun f=>f 2= .int .i64 ub) (fun Q' hn hr=>?_) (fun f hI=>?_)
 . simp;rcases hB with⟨hB,e⟩|⟨hB,e⟩
   . have hb:((¬ c.op=9/\¬c.op=10)/\¬c.op=11)/\¬c.op=13:=by simpa[Bw]using hB
     obtain⟨⟨⟨b1,b2⟩,b3⟩,b4⟩:=hb;simp[b1,b2,b3,b4];refine hn _ Ab ?_;simp[e]
   have hb:c.op=9\/c.op=10\/c.op=11\/c.op=13:=by simpa[Bw,or_assoc]using hB
   have hw:=Au (n:=d+1) Aa Aa;rcases hb with b|b|b|b
   . have q9:decide (c.op=9)=true:=Mx b;simp[q9,hw];refine hn _ Ab ?_;simp[e]
   . have q9:decide (c.op=9)=false:=Jd Aa;have q10:decide (c.op=10)=true:=Mx b;simp[q9,q10,hw];refine hn _ Ab ?_;simp[e]
   . have q9:decide (c.op=9)=false:=Jd Aa;have q10:decide (c.op=10)=false:=Jd Aa;have q11:decide (c.op=11)=true:=Mx b;simp[q9,q10,q11,hw];refine hn _ Ab ?_;simp[e]
   have q9:decide (c.op=9)=false:=Jd Aa;have q10:decide (c.op=10)=false:=Jd Aa;have q11:decide (c.op=11)=false:=Jd Aa;have q13:decide (c.op=13)=true:=Mx b;simp[q9,q10,q11,q13,hw];refine hn _ Ab ?_;simp[e]
 have M9:0<=ub/\ub<=d+1:=by rcases hB with⟨_,e⟩|⟨_,e⟩<;>omega
 clear hB hbe;simp[hI]
 refine Ip (A9.loopI [2] (fun n f' h G=>∃(k:Nat) (tok:Dh) (P:Ax),k+n=c.l.length/\P.length=k/\f' 72= .int .i64 k/\
  h 2=[.int .i64 c.op,.int .i64 c.n,.str c.s,.sl .none (c.k.l.map Ak),.sl .none (At c.names),.sl tok (P.map Ag)]/\
  owns 3 G tok (P.map Ag) 6/\P++U7 l (c.l.drop k) ub=U7 l c.l ub) c.l.length Ab ⟨0,.nilT,[],Ab,rfl,rfl,by simp[Fs],Fp _ _ _,rfl⟩ ?_)
 rintro n f' h' G ⟨k,tok,P,hk,hP,h72,ho',Bt,Dz⟩;refine Ru fun Q2 Aj=>?_;simp[h72,ho'];by_cases Af:k<c.l.length
 . have Fz:=Ct Af;have hdm:=Yq (Cy Af);have A6:=A6 c.l[k] (Cy _) ub M9.1 Aa;rw[Fz,U7]at Dz;generalize rp l c.l[k] ub=y at Dz A6;simp[Af,Ap c.l[k]];refine Wd ?_;simp;refine Da A6 ?_;simp[Ad,Ap y,Dx];refine Tp [_,_,_] (G++[_]) (by simp only[Gb,Gx]; rfl) (by simpa using Lv Bt) (by simp[A1]; omega) (Ea _ _ Iq) Ab fun tok' G' Bv Ei=>?_;simp[Au (n:=(k:Int)+1) Aa Aa];refine Aj (Fo (n-1) (fun _=>[.int .i64 c.op,.int .i64 c.n,.str c.s,.sl .none (c.k.l.map Ak),.sl .none (At c.names),.sl tok' ((P++[y]).map Ag)]) (G':=G') (by simp[Ap y]) Aa Ab ?_);exact⟨k+1,tok',P++[y],Aa,by simp[hP],Ab,Ab,by simpa[Ap y]using Bv,by rw[<- Dz]; simp⟩
 have R7:P=U7 l c.l ub:=by rw[<- Dz,Cm Aa]; simp[U7]
 rw[<- R7]at key;simp[Af];refine Aj (Lx ?_);simp;exact hQ (by simp[key,Ad,Fj])
def A1x(l:Ax)(hz:∀x∈l,Al x<=1000000000000)(c:Cn)(d:Int)(h0:0<=d)(hd:d+Bo c<=10000000):
 Hc 178 [Ad c,.sl .none (l.map Ag),.int .i64 d] (Ad (rp l c d)):=
 Brg l hz c d h0 hd fun x hx d h0 hd=>A1x l hz x d h0 hd
termination_by SizeOf.sizeOf c
decreasing_by exact Cn.lt_l ‹_›
end
