/- A part of the proof that LiftApplies answers true. -/
import Derived.Test.YtndkeknbfbdeeaaGreatDoorG24
import Derived.Test.YtndkeknbfbdeeaaGreatDoorG23
set_option linter.all false
set_option maxHeartbeats 4000000
set_option maxRecDepth 100000
namespace Go.Proofs.YtndkeknbfbdeeaaGreatDoor
open Go
section
attribute [-simp] Int.not_lt Int.not_le
attribute [local simp] Cb Cq
set_option maxHeartbeats 16000000 in
def Bl7(s:Sm):Hc 209 [An s] (.bool (Cp s)):=by
 have key:=Adt s;refine Hf Bhh fun Am Q hQ=>?_;have hf:=Rj (c:=s) (by simpa[Bl,An,AV.fits]using Am);have B5:s.l.length<=1073741824:=hf.2.2.2.2.1;have hnn:s.names.length<=1073741824:=hf.2.2.2.1;clear Am hf;have f1:q1 s=false->Cp s=false:=fun h=>by rw[key,h]; rfl
 have f2:q2 s=false->Cp s=false:=fun h=>by rw[key,h]; simp
 have f3:m3 s=false->Cp s=false:=fun h=>by rw[key,h]; simp
 have f4:m4 s=false->Cp s=false:=fun h=>by rw[key,h]; simp
 have f5:q5 s=false->Cp s=false:=fun h=>by rw[key,h]; simp
 have f6:q6 s=false->Cp s=false:=fun h=>by rw[key,h]; simp
 have fin7:q1 s=true->q2 s=true->m3 s=true->m4 s=true->q5 s=true->q6 s=true->Cp s=q7 s:=fun h1 h2 h3 h4 h5 h6=>by rw[key,h1,h2,h3,h4,h5,h6]; simp
 clear key;simp[-Az,An,Av s];rw[Az];simp[-Az];refine Gc (fun f=>q1 s=true) (fun Q' hn hr=>?_) (fun f hI=>?_)
 . clear f2 f3 f4 f5 f6 fin7;simp
   repeat' (first |(refine C3 (fun hb=>?_) (fun hb=>?_)<;>(try simp only[bM]at hb)<;>simp[hb])|(refine Em (fun hb=>?_) (fun hb=>?_)<;>(try simp only[bM]at hb)<;>simp[hb]))
   all_goals first
    |(refine hr _ _ ?_;have e:=f1 (by clear hn hr hQ;(try simp only[Aw,Bj]at *); first |(simp[*,q1]; done)|(exfalso;omega)|(exfalso;simp_all;done)); simp;refine hQ ?_;simp[e]; done)
    |(refine hn _ Ab ?_;clear hn hr hQ;(try simp only[Bj]at *); first |(simp[*,q1]; done)|(exfalso;omega)|(exfalso;simp_all;done))
 simp[-Az];refine Gc (fun f=>q2 s=true) (fun Q' hn hr=>?_) (fun f hI=>?_)
 . clear f1 f3 f4 f5 f6 fin7;cases ho:Dr s.op<;>cases hc:Fg s.con
   all_goals
    simp;refine Wd ?_;simp;refine Da (X0 s.op) ?_;simp[ho];refine Da (Bl1 s.con) ?_;simp[hc]
   . all_goals first
      |(refine hr _ _ ?_;have e:=f2 (by clear hn hr hQ;(try simp only[Aw,Bj]at *); first |(simp[*,q2]; done)|(exfalso;omega)|(exfalso;simp_all;done)); simp;refine hQ ?_;simp[e]; done)
      |(refine hn _ Ab ?_;clear hn hr hQ;(try simp only[Aw,Bj]at *); first |(simp[*,q2,ho,hc]; done)|(exfalso;omega)|(exfalso;simp_all;done))
   . refine Da (X0 s.op) ?_;simp[ho]
     all_goals first
      |(refine hr _ _ ?_;have e:=f2 (by clear hn hr hQ;(try simp only[Aw,Bj]at *); first |(simp[*,q2,ho,hc]; done)|(exfalso;omega)|(exfalso;simp_all;done)); simp;refine hQ ?_;simp[e]; done)
      |(refine hn _ Ab ?_;clear hn hr hQ;(try simp only[Aw,Bj]at *); first |(simp[*,q2]; done)|(exfalso;omega)|(exfalso;simp_all;done))
   . refine Da (X0 s.op) ?_;simp[ho];refine Da (Lw s.con) ?_;cases hv:Ar s.con
     . simp
       all_goals first
        |(refine hr _ _ ?_;have e:=f2 (by clear hn hr hQ;(try simp only[Aw,Bj]at *); first |(simp[*,q2]; done)|(exfalso;omega)|(exfalso;simp_all;done)); simp;refine hQ ?_;simp[e]; done)
        |(refine hn _ Ab ?_;clear hn hr hQ;(try simp only[Aw,Bj]at *); first |(simp[*,q2,ho,hc,hv]; done)|(exfalso;omega)|(exfalso;simp_all;done))
     simp
     all_goals first
      |(refine hr _ _ ?_;have e:=f2 (by clear hn hr hQ;(try simp only[Aw,Bj]at *); first |(simp[*,q2,ho,hc,hv]; done)|(exfalso;omega)|(exfalso;simp_all;done)); simp;refine hQ ?_;simp[e]; done)
      |(refine hn _ Ab ?_;clear hn hr hQ;(try simp only[Aw,Bj]at *); first |(simp[*,q2]; done)|(exfalso;omega)|(exfalso;simp_all;done))
   all_goals first
    |(refine hr _ _ ?_;have e:=f2 (by clear hn hr hQ;(try simp only[Aw,Bj]at *); first |(simp[*,q2]; done)|(exfalso;omega)|(exfalso;simp_all;done)); simp;refine hQ ?_;simp[e]; done)
    |(refine hn _ Ab ?_;clear hn hr hQ;(try simp only[Aw,Bj]at *); first |(simp[*,q2,ho,hc]; done)|(exfalso;omega)|(exfalso;simp_all;done))
 simp[-Az];refine Gc (fun f=>m3 s=true) (fun Q' hn hr=>?_) (fun f hI=>?_)
 . clear f1 f2 f4 f5 f6 fin7;simp
   repeat' (first |(refine C3 (fun hb=>?_) (fun hb=>?_)<;>(try simp only[bM]at hb)<;>simp[hb])|(refine Em (fun hb=>?_) (fun hb=>?_)<;>(try simp only[bM]at hb)<;>simp[hb])|(refine Fh (Xz s.k) Ab Ab (by simp[Ba,Df,Kd.l]) ?_;simp))
   all_goals first
    |(refine hr _ _ ?_;have e:=f3 (by clear hn hr hQ;(try simp only[Aw,Bj]at *); first |(simp[*,m3]; done)|(exfalso;omega)|(exfalso;simp_all;done)); simp;refine hQ ?_;simp[e]; done)
    |(refine hn _ Ab ?_;clear hn hr hQ;(try simp only[Aw,Bj]at *); first |(simp[*,m3]; done)|(exfalso;omega)|(exfalso;simp_all;done))
 simp[-Az];refine Gc (fun f=>m4 s=true) (fun Q' hn hr=>?_) (fun f hI=>?_)
 . clear f1 f2 f3 f5 f6 fin7;simp
   repeat' (first |(refine C3 (fun hb=>?_) (fun hb=>?_)<;>(try simp only[bM]at hb)<;>simp[hb])|(refine Em (fun hb=>?_) (fun hb=>?_)<;>(try simp only[bM]at hb)<;>simp[hb])|(refine Fh (Aef s.s) Ab Ab Ab ?_;simp))
   all_goals first
    |(refine hr _ _ ?_;have e:=f4 (by clear hn hr hQ;(try simp only[Aw,Bj]at *); first |(simp[*,m4]; done)|(exfalso;omega)|(exfalso;simp_all;done)); simp;refine hQ ?_;simp[e]; done)
    |(refine hn _ Ab ?_;clear hn hr hQ;(try simp only[Aw,Bj]at *); first |(simp[*,m4]; done)|(exfalso;omega)|(exfalso;simp_all;done))
 simp[-Az];refine Gc (fun f=>q5 s=true) (fun Q' hn hr=>?_) (fun f hI=>?_)
 . clear f1 f2 f3 f4 f6 fin7;simp;refine Ca (Ayg s.ks) ?_;cases hk1:J1 s.ks
   . simp
     all_goals first
      |(refine hr _ _ ?_;have e:=f5 (by clear hn hr hQ;(try simp only[Aw,Bj]at *); first |(simp[*,q5]; done)|(exfalso;omega)|(exfalso;simp_all;done)); simp;refine hQ ?_;simp[e]; done)
      |(refine hn _ Ab ?_;clear hn hr hQ;(try simp only[Aw,Bj]at *); first |(simp[*,q5,hk1]; done)|(exfalso;omega)|(exfalso;simp_all;done))
   simp;refine Ca (Ayg s.more) ?_;cases hk2:J1 s.more
   . simp
     all_goals first
      |(refine hr _ _ ?_;have e:=f5 (by clear hn hr hQ;(try simp only[Aw,Bj]at *); first |(simp[*,q5]; done)|(exfalso;omega)|(exfalso;simp_all;done)); simp;refine hQ ?_;simp[e]; done)
      |(refine hn _ Ab ?_;clear hn hr hQ;(try simp only[Aw,Bj]at *); first |(simp[*,q5,hk1,hk2]; done)|(exfalso;omega)|(exfalso;simp_all;done))
   simp
   repeat' (first |(refine C3 (fun hb=>?_) (fun hb=>?_)<;>(try simp only[bM]at hb)<;>simp[hb])|(refine Em (fun hb=>?_) (fun hb=>?_)<;>(try simp only[bM]at hb)<;>simp[hb]))
   all_goals first
    |(refine hr _ _ ?_;have e:=f5 (by clear hn hr hQ;(try simp only[Aw,Bj]at *); first |(simp[*,q5]; done)|(exfalso;omega)|(exfalso;simp_all;done)); simp;refine hQ ?_;simp[e]; done)
    |(refine hn _ Ab ?_;clear hn hr hQ;(try simp only[Aw,Bj]at *); first |(simp[*,q5]; done)|(exfalso;omega)|(exfalso;simp_all;done))
 simp[-Az];refine Gc (fun f=>q6 s=true) (fun Q' hn hr=>?_) (fun f hI=>?_)
 . clear f1 f2 f3 f4 f5 fin7;simp
   repeat' (first |(refine C3 (fun hb=>?_) (fun hb=>?_)<;>(try simp only[bM]at hb)<;>simp[hb])|(refine Em (fun hb=>?_) (fun hb=>?_)<;>(try simp only[bM]at hb)<;>simp[hb,Hu]))
   all_goals first
    |(refine hr _ _ ?_;have e:=f6 (by clear hn hr hQ;(try simp only[Aw,Bj]at *); first |(simp[*,q6]; done)|(exfalso;omega)|(exfalso;simp_all;done)); simp;refine hQ ?_;simp[e]; done)
    |(refine hn _ Ab ?_;clear hn hr hQ;(try simp only[Aw,Bj]at *); first |(simp[*,q6]; done)|(exfalso;omega)|(exfalso;simp_all;done))
 have e:=fin7 ‹_› ‹_› ‹_› ‹_› ‹_› ‹_›;clear f1 f2 f3 f4 f5 f6 fin7;simp;by_cases h4:s.op=4
 . have e4:Cp s=(match s.l with | [a]=>Ng a.op|_=>false):=by rw[e,q7,Ae h4]; rfl
   clear e;simp[h4];by_cases hl:s.l.length=1
   . obtain⟨a,ha⟩:=tj hl;rw[ha]at e4;simp only at e4;simp[ha];refine Ca (wg a) ?_;simp;exact hQ
   have Ci:¬(s.l.length:Int)=1:=by omega
   have e5:Cp s=false:=by
    rw[e4];rcases hs:s.l with _|⟨a,_|⟨b,r⟩⟩
    . rfl
    . rw[hs]at hl;simp at hl
    rfl
   simp[Ci];exact hQ (by simp[e5])
 by_cases h6:s.op=6
 . have e4:Cp s=(match s.l with | [a,b]=>Ng a.op&&Ng b.op|_=>false):=by rw[e,q7,Ac h4,Ae h6]; rfl
   clear e;simp[h6];by_cases hl:s.l.length=2
   . obtain⟨a,b,ha⟩:=mv hl;rw[ha]at e4;simp only at e4;simp[ha];refine Ca (wg a) ?_;cases hm:Ng a.op
     . simp;exact hQ
     simp;refine Ca (wg b) ?_;simp;exact hQ
   have Ci:¬(s.l.length:Int)=2:=by omega
   have e5:Cp s=false:=by
    rw[e4];rcases hs:s.l with _|⟨a,_|⟨b,_|⟨c,r⟩⟩⟩
    . rfl
    . rfl
    . rw[hs]at hl;simp at hl
    rfl
   simp[Ci];exact hQ (by simp[e5])
 by_cases h5:s.op=5
 . have e4:Cp s=(decide (s.names.length<=1000)&&(asc s.names&&Cs Hq s.names s.l)):=by rw[e,q7,Ac h4,Ac h6,Ae h5]
   clear e;by_cases hb:s.names.length<=1000
   case neg=>
    have hb':(1000:Int)<s.names.length:=Aa;have e5:Cp s=false:=by rw[e4]; simp[hb]
    simp[h5,Hu,hb'];exact hQ
   have hb':¬(1000:Int)<s.names.length:=Aa;by_cases ha:s.l.length=s.names.length
   case neg=>
    have Y0:¬(s.l.length:Int)=s.names.length:=Aa;have e5:Cp s=false:=by rw[e4,Vq _ _ _ Aa]; simp
    simp[h5,Hu,hb',Y0];exact hQ (by simp[e5])
   simp[h5,Hu,hb',ha];refine Ca (Aee s.names) ?_;cases hc:asc s.names
   . have e5:Cp s=false:=by rw[e4,hc]; simp
     simp;exact hQ
   have key2:Cp s=Cs Hq s.names s.l:=by rw[e4,hc]; simp[hb]
   simp;refine WL [] (fun n f h G=>∃k:Nat,k+n=s.l.length/\f 3= .int .i64 k/\Cs Hq (s.names.drop k) (s.l.drop k)=Cp s) (s.l.length) Ab ⟨0,Ab,rfl,by rw[key2]; rfl⟩ ?_;rintro n f h G ⟨k,hk,h3,hs⟩ Q2 Aj;simp[h3];by_cases Af:k<s.l.length
   . have Gm:k<s.names.length:=by omega
     have hd:=Ct Af;have Dy:=Ct Gm
     have hg:∀h:k<(At s.names).length,(At s.names)[k]=[.str s.names[k]]:=fun h=>by
      have:=Afv s.names k Gm;rw[Il h]at this;exact ez this
     simp[Af];refine Wd ?_;simp[hg,Gm,Hu];refine Da (oc s.names[k]) ?_ (ha:=Bc) (hr:=Bc) (he:=Bc);cases hl:Ff s.names[k]
     . have hv:Hq s.names[k] s.l[k]=false:=by
        cases hv:Hq s.names[k] s.l[k]
        . rfl
        rw[A86 hv]at hl;cases hl
       have e5:Cp s=false:=by rw[<- hs,hd,Dy]; simp[Cs,hv]
       simp;refine Aj (Lr ?_);simp;exact hQ (by simp[e5])
     simp[hg,Gm,Af,Hu];refine Da (Bl0 s.names[k] s.l[k]) ?_;cases hv:Hq s.names[k] s.l[k]
     . have e5:Cp s=false:=by rw[<- hs,hd,Dy]; simp[Cs,hv]
       simp;refine Aj (Lr ?_);simp;exact hQ (by simp[e5])
     simp[Au (n:=(k:Int)+1) Aa Aa];refine Aj (Ln h ?_);refine⟨k+1,Aa,Ab,?_⟩;rw[<- hs,hd,Dy]; simp[Cs,hv]
   have e5:Cp s=true:=by rw[<- hs,Cm Aa,Cm Aa]; simp[Cs]
   simp[Af];refine Aj (Lx ?_);simp;exact hQ (by simp[e5])
 have e4:Cp s=decide (s.l=[]):=by rw[e,q7,Ac h4,Ac h6,Ac h5]
 clear e;simp[h4,h5,h6];exact hQ
end
def Bl6(s:Sm)(left d:Int)(hc:Dd s)(hl0: -1000000<=left)(hl:left<=20000)(Lh: -1000<=d)(hd:d<=400)
 (A6:∀x∈s.l,∀left d, -1000000<=left->left<=20000->-1000<=d->d<=400->Hc 127 [An x,.int .i64 left,.int .i64 d] (.int .i64 (cS x left d))):
 Hc 127 [An s,.int .i64 left,.int .i64 d] (.int .i64 (cS s left d)):=by
 have B7:=((Ju s).1 hc).1;have key0:=cS_eq s left d;refine Hf Bhf fun Am Q hQ=>?_;have hf:=Rj (c:=s) (by simpa[Bl,An,AV.fits]using Am.1);have B5:s.l.length<=1073741824:=hf.2.2.2.2.1;clear Am hf;simp[An,Av s];by_cases h1:left<1
 . rw[Ae (.inl h1)]at key0;simp[h1];exact hQ
 by_cases h2:d<1
 . rw[Ae (.inr (.inl h2))]at key0;simp[h1,h2];exact hQ
 simp[h1,h2];refine Ca (Bl7 s) ?_;cases h3:Cp s
 . rw[Ae (.inr (.inr h3))]at key0;simp;exact hQ
 rw[Ac (by simp[h1,h2,h3])]at key0;simp[Au (n:=left-1) Aa Aa];refine Ca (X0 s.op) ?_
 have hn:∃n0:Int,n0=left-1-(if Dr s.op=true then(Al s.con:Int)else 0)/\-20001<=n0/\n0<=20000:=by
  refine⟨_,rfl,?_⟩;split
  . rename_i ho;have:=Ads h3 ho;omega
  omega
 obtain⟨n0,Ns,De,hn2⟩:=hn;rw[<- Ns]at key0
 have loop:∀(b:Bool),Dr s.op=b->(b=true->n0=left-1-(Al s.con:Int))/\(b=false->n0=left-1):=fun b hb=>by
  subst hb;rw[Ns]; constructor<;>intro h<;>simp[h]
 cases ho:Dr s.op
 case' false=>
  have P8:=(loop _ ho).2 rfl;simp[<- P8]
 case' true=>
  have P8:=(loop _ ho).1 rfl;simp;refine Ca (dg s.con B7) ?_;simp[<- P8,Au (n:=n0) Aa Aa]
 all_goals
  clear loop Ns P8;refine WL [] (fun n f h G=>∃(k:Nat) (m:Int),k+n=s.l.length/\f 7= .int .i64 k/\f 1= .int .i64 m/\-20001<=m/\m<=20000/\J6 (s.l.drop k) m d=cS s left d) (s.l.length) Ab ⟨0,_,Ab,rfl,rfl,Aa,Aa,by rw[key0]; rfl⟩ ?_;rintro n f h G ⟨k,m,hk,h7,h1',Sf,hm2,hs⟩ Q2 Aj;simp[h7,h1'];by_cases Af:k<s.l.length
  . have Fz:=Ct Af;by_cases hm:0<=m
    . have A6:=A6 s.l[k] (Cy _) m (d-1) Aa Aa Aa Aa;have Y6:=Aip s.l[k] m (d-1);simp[Af,hm,Au (n:=d-1) Aa Aa];refine Ca A6 ?_;simp[Au (n:=(k:Int)+1) Aa Aa];refine Aj (Ln h ?_);refine⟨k+1,_,Aa,Ab,by simp;rfl,Aa,Aa,?_⟩;rw[<- hs,Fz,J6,Ae hm]
    have e:cS s left d=m:=by rw[<- hs,Aba Aa]
    simp[Af,hm];refine Aj (Lx ?_);simp;exact hQ (by simp[e])
  have e:cS s left d=m:=by rw[<- hs,Cm Aa,J6]
  simp[Af];refine Aj (Lx ?_);simp;exact hQ (by simp[e])
def Aen(s:Sm)(left d:Int)(hc:Dd s)(hl0: -1000000<=left)(hl:left<=20000)(Lh: -1000<=d)(hd:d<=400):Hc 127 [An s,.int .i64 left,.int .i64 d] (.int .i64 (cS s left d)):=
 Bl6 s left d hc hl0 hl Lh hd fun x hx left d h1 h2 h3 h4=>Aen x left d (((Ju s).1 hc).2 x hx) h1 h2 h3 h4
termination_by SizeOf.sizeOf s
decreasing_by exact Sm.lt_l ‹_›
def we(s:Sm)(hc:Dd s):Hc 109 [An s] (.bool (Cu s)):=by
 have key:=A5n s;refine Hg Bg6 fun Q hQ=>?_;simp[An];refine Ca (Aen s 20000 400 hc Aa Aa Aa Aa) ?_;simp;exact hQ
section
attribute [local simp] Cb Cq
mutual
def kj(d:Int):∀(c:Cn) (f:Int),Al (Dm c d f)<=Al c/\Bo (Dm c d f)<=Bo c
 | .mk o n s k ns l,f=>by
   rw[Dm];generalize (if 20001<f then(20001:Int)else f)=z;by_cases h1:o=1
   . rw[Ae h1];by_cases h2:z<=n
     . rw[Ae h2]; simp only[Ch,Al,Bd,Bo,Cz]; omega
     rw[Ac h2]; exact⟨Bm _,Bm _⟩
   rw[Ac h1];have:=Ay8 d l (if Bw o=true then IntKind.i64.wrap (z+1)else z);simp only[Al,Bo]; omega
def Ay8(d:Int):∀(l:List Cn) (f:Int),Bd (Lz l d f)<=Bd l/\Cz (Lz l d f)<=Cz l
 | [],_=>by simp[Lz]
 |c::cs,f=>by
  have h1:=kj d c f;have h2:=Ay8 d cs f;simp only[Lz,Bd,Cz]; omega
end
mutual
def Azd(l:List Cn)(K D:Nat)(hK:1<=K)(hD:1<=D)(hl:∀x∈l,Al x<=K/\Bo x<=D):∀(c:Cn) (d:Int),Al (Do l c d)<=K*Al c/\Bo (Do l c d)<=Bo c+D
 | .mk o n s k ns cl,d=>by
   rw[Do];simp only[Al,Bo,Nat.mul_add,Aac];split
   . split
     . simp only[Al,Bo];have:=qk (Bd cl) hK;omega
     split
     . rename_i h1 h2;by_cases Af:(IntKind.i64.wrap (n-d)).toNat<l.length
       . rw[Jb,Il Af];have h3:=hl _ (Cy Af);have h4:=kj d l[(IntKind.i64.wrap (n-d)).toNat] 0;simp only[lu];omega
       rw[Jb,Im Aa];have h4:=kj d A3 0;have hz:Al A3=1/\Bo A3=1:=by simp[A3,Al,Bd,Bo,Cz]
       simp only[Ahm];omega
     simp only[Ch,Al,Bd,Bo,Cz]; omega
   have:=Azh l K D hK hD hl cl (if Bw o=true then IntKind.i64.wrap (d+1)else d);simp only[Al,Bo]; omega
def Azh(l:List Cn)(K D:Nat)(hK:1<=K)(hD:1<=D)(hl:∀x∈l,Al x<=K/\Bo x<=D):∀(cl:List Cn) (d:Int),Bd (Ri l cl d)<=K*Bd cl/\Cz (Ri l cl d)<=Cz cl+D
 | [],_=>by simp[Ri,Bd,Cz]
 |c::cs,d=>by
  have h1:=Azd l K D hK hD hl c d;have h2:=Azh l K D hK hD hl cs d;simp only[Ri,Bd,Cz,Nat.mul_add]; omega
end
def Zm(B D:Nat):Nat->Sm->Prop
 |0,_=>False
 |h+1,s=>s.ks.length<=1000/\s.more.length<=1000/\Bo s.con<=D/\Al s.con<=B/\∀x∈s.l,Zm B D h x
def ow{B D:Nat}(hD:D<=1000):∀(h:Nat) (s:Sm),Zm B D h s->X5 h s
 |0,_,hs=>hs.elim
 |h+1,s,hs=>⟨hs.1,hs.2.1,by have:=hs.2.2.1;omega,fun x hx=>ow hD h x (hs.2.2.2.2 x hx)⟩
def A02{B D:Nat}(hB:B<=1000000000000):∀(h:Nat) (s:Sm),Zm B D h s->Dd s
 |0,_,hs=>hs.elim
 |h+1,s,hs=>by
  rw[Ju];exact⟨by have:=hs.2.2.2.1;omega,fun x hx=>A02 hB h x (hs.2.2.2.2 x hx)⟩
def Af0:∀(h:Nat) (s:Sm),Lb h s->Zm 20000 400 h s
 |0,_,hs=>hs.elim
 |h+1,s,hs=>by
  have hk:=n6 hs.1
  have hc:Bo s.con<=400/\Al s.con<=20000:=by
   by_cases ho:Dr s.op=true
   . have:=Gz (co hs.1 ho); omega
   rw[Adu hs.1 ho]; simp[A3,Al,Bd,Bo,Cz]
  exact⟨hk.1,hk.2,hc.1,hc.2,fun x hx=>Af0 h x (hs.2 x hx)⟩
def wz(g:Cn->Int->Cn)(s:Sm)(d:Int):(Gg g s d).ks=s.ks/\(Gg g s d).more=s.more/\(Gg g s d).op=s.op/\(Gg g s d).con=(if Dr s.op=true then g s.con d else s.con)/\(Gg g s d).l=Nx g s.ks s.more s.l 0 d:=by
 rw[Afe]; exact⟨rfl,rfl,rfl,rfl,rfl⟩
def Afh(g:Cn->Int->Cn)(ks more:List Kd):∀(l:List Sm) (i:Nat) (d:Int) (y:Sm),y∈Nx g ks more l i d->∃x∈l,∃e,y=Gg g x e
 |x::xs,i,d,y,h=>by
  rw[Nx]at h;rcases List.mem_cons.1 h with rfl|h
  . exact⟨x,Ab,_,rfl⟩
  obtain⟨z,hz,e⟩:=Afh g ks more xs (i+1) d y h;exact⟨z,by simp[hz],e⟩
def wy{B D B' D':Nat}(hB:B<=B')(hD:D<=D')(g:Cn->Int->Cn)(hg:∀c k,Al c<=B->Bo c<=D->Al (g c k)<=B'/\Bo (g c k)<=D'):∀(h:Nat) (s:Sm) (d:Int),Zm B D h s->Zm B' D' h (Gg g s d)
 |0,_,_,hs=>hs.elim
 |h+1,s,d,hs=>by
  obtain⟨e1,e2,e3,e4,e5⟩:=wz g s d;obtain⟨h1,h2,h3,h4,h5⟩:=hs;have h6:=hg s.con d h4 h3;refine⟨by rw[e1]; exact h1,by rw[e2]; exact h2,?_,?_,fun y hy=>?_⟩
  . rw[e4]; split<;>omega
  . rw[e4]; split<;>omega
  rw[e5]at hy;obtain⟨x,hx,e,rfl⟩:=Afh g _ _ _ _ _ _ hy;exact wy hB hD g hg h x e (h5 x hx)
def Az4(g:Cn->Int->Cn)(s:Sm)(d:Int)(h:Sp s):Sp (Gg g s d):=by
 obtain⟨e1,e2,e3,e4,e5⟩:=wz g s d;rw[xv]at h ⊢;obtain⟨h1,h2⟩:=h;refine⟨⟨by rw[e3]; exact h1.1,by rw[e3,e5,kp]; exact h1.2.1,by rw[e3,e5,kp]; exact h1.2.2⟩,fun y hy=>?_⟩;rw[e5]at hy;obtain⟨x,hx,e,rfl⟩:=Afh g _ _ _ _ _ _ hy;exact Az4 g x e (h2 x hx)
termination_by SizeOf.sizeOf s
decreasing_by exact Sm.lt_l ‹_›
mutual
def Ahe:∀(s r:Sm),Dd s->NS s r->Dd r
 | .mk o n s c k ks more names l,r,hc,hr=>by
   rw[NS]at hr;obtain⟨c',l',rfl,h1,h2⟩:=hr;rw[Ju]at hc ⊢;refine⟨?_,Ahg l l' hc.2 h2⟩;show Al c'<=_;by_cases ho:Dr o=true
   . rw[Ae ho]at h1;obtain⟨m,hm⟩:=h1;have:=(Gz (hm.valid c' Ab)).1;omega
   rw[Ac ho]at h1;rw[h1]; exact hc.1
def Ahg:∀(l r:List Sm),(∀ x∈l,Dd x)->Wo l r->∀y∈r,Dd y
 | [],r,_,hr=>by rw[Wo]at hr;subst hr;simp
 |x::xs,r,hc,hr=>by
  rw[Wo]at hr;obtain⟨y,ys,rfl,h1,h2⟩:=hr;intro z hz;rcases List.mem_cons.1 hz with rfl|hz
  . exact Ahe x z (hc x Ab) h1
  exact Ahg xs ys (fun w hw=>hc w (by simp[hw])) h2 z hz
end
def T8(m:Nat)(l:List Cn):List Cn:=(List.range m).map (fun i:Nat=>Ch (i:Int))++(l.reverse.map fun x=>Dm x m 0)
end
section
attribute [-simp] Int.not_lt Int.not_le
attribute [local simp] Cb Cq
def Ayq(l:Ax):Hc 50 [.sl .none (l.map Ag)] (.sl .none (l.reverse.map Ag)):=by
 refine Hf Bhy fun Am Q hQ=>?_;have B5:l.length<=1073741824:=by simpa[Bl,AV.fits,A1]using Am.1.1
 clear Am;simp[Au (n:=(l.length:Int)-1) Aa Aa];refine WL [] (fun n f h G=>∃(tok:Dh) (done:Ax),n<=l.length/\done=(l.drop n).reverse/\f 4= .int .i64 ((n:Int)-1)/\f 3= .sl tok (done.map Ag)/\owns 0 G tok (done.map Ag) 6) (l.length) Ab ⟨.nilT,[],Bm _,Ab,rfl,rfl,Fp _ _ _⟩ ?_;rintro n f h G ⟨tok,done,hn,I5,h4,h3,Bt⟩ Q2 Aj;simp[h4,h3];by_cases Af:1<=n
 . have Cc:(0:Int)<=(n:Int)-1:=by omega
   have Se:(1:Int)<=(n:Int):=Aa;have hk:n-1<l.length:=Aa;have e1:((n:Int)-1).toNat=n-1:=Aa;have hd:=Ct hk;rw[show n-1+1=n by omega]at hd;have e2:(l.drop (n-1)).reverse=done++[l[n-1]]:=by rw[hd,I5]; simp
   have S6:done.length+1<=l.length:=by rw[I5]; simp;omega
   clear I5;simp[Se,e1,hk,Dx];refine Ss (A:=[]) (by simpa using Bt) (by simp[A1]; omega) (Ea _ _ Iq) Ab fun tok' G' Bv Ei=>?_;simp[Au (n:=(n:Int)-1-1) Aa Aa];refine Aj (Ln h ?_);exact⟨tok',done++[l[n-1]],Aa,e2.symm,by simp;omega,Ab,by simpa using Bv⟩
 have Cc:¬(0:Int)<=(n:Int)-1:=by omega
 have Se:¬(1:Int)<=(n:Int):=Aa;obtain rfl:n=0:=Aa;have e2:done=l.reverse:=by rw[I5]; simp
 rw[<- e2]at hQ;simp;refine Aj (Lx ?_);simp;exact hQ
def Bm0(m:Nat)(hm:m<=1000000):Hc 123 [.int .i64 m] (.sl .none (((List.range m).map fun i:Nat=>Ch (i:Int)).reverse.map Ag)):=by
 obtain⟨L,hL⟩:∃L:Ax,L=(List.range m).map fun i:Nat=>Ch (i:Int):=⟨_,rfl⟩;have hlen:L.length=m:=by rw[hL]; simp
 have Lj:∀k (h:k<L.length),L[k]=Ch (k:Int):=fun k h=>by simp[hL]
 rw[<- hL];clear hL;refine Hg Bh0 fun Q hQ=>?_;simp[Au (n:=(m:Int)-1) Aa Aa];refine WL [] (fun n f h G=>∃(tok:Dh) (done:Ax),n<=m/\done=(L.drop n).reverse/\f 4= .int .i64 ((n:Int)-1)/\f 3= .sl tok (done.map Ag)/\owns 0 G tok (done.map Ag) 6) (m) Ab ⟨.nilT,[],Bm _,by rw[Cm Aa]; rfl,rfl,rfl,Fp _ _ _⟩ ?_;rintro n f h G ⟨tok,done,hn,I5,h4,h3,Bt⟩ Q2 Aj;simp[h4,h3];by_cases Af:1<=n
 . have Cc:(0:Int)<=(n:Int)-1:=by omega
   have Se:(1:Int)<=(n:Int):=Aa;have hk:n-1<L.length:=Aa;have hd:=Ct hk;rw[show n-1+1=n by omega]at hd;have e2:(L.drop (n-1)).reverse=done++[L[n-1]]:=by rw[hd,I5]; simp
   have S6:done.length+1<=L.length:=by rw[I5]; simp;omega
   have hv:=Aek ((n:Int)-1);rw[show Ch ((n:Int)-1)=L[n-1] by rw[Lj (n-1) hk]; congr 1;omega]at hv;clear I5;generalize L[n-1]=x at e2 hv;simp[Se];refine Ca hv ?_;simp[Ad,Dx];refine Ss (A:=[]) (by simpa using Bt) (by simp[A1]; omega) (Ea _ _ Iq) Ab fun tok' G' Bv Ei=>?_;simp[Au (n:=(n:Int)-1-1) Aa Aa];refine Aj (Ln h ?_);exact⟨tok',done++[x],Aa,e2.symm,by simp;omega,Ab,by simpa using Bv⟩
 have Cc:¬(0:Int)<=(n:Int)-1:=by omega
 have Se:¬(1:Int)<=(n:Int):=Aa;obtain rfl:n=0:=Aa;have e2:done=L.reverse:=by rw[I5]; simp
 rw[<- e2]at hQ;simp;refine Aj (Lx ?_);simp;exact hQ
def Ayo(a b:B6)(h:a.length+b.length<=1000000):Hc 42 [.sl .none (a.map Ak),.sl .none (b.map Ak)] (.sl .none ((a++b).map Ak)):=by
 refine Hg Bhv fun Q hQ=>?_;simp;refine ey (A:=[]) (G:=[]) (Fp _ _ _) (by simp[A1]; omega) rfl (Ea _ _ fun _=>by simp[Df]) fun tok G Bt hG=>?_;simp;refine ey (A:=[]) (G:=G) (by simpa using Bt) (by simp[A1]; omega) (Ea _ _ fun _=>by simp[Df]) (Ea _ _ fun _=>by simp[Df]) fun tok' G' Bv Ei=>?_;simp;rw[<- List.map_append];exact hQ (by simp[-List.map_append])
def Bmy(a b:Ax)(h:a.length+b.length<=1000000):Hc 45 [.sl .none (a.map Ag),.sl .none (b.map Ag)] (.sl .none ((a++b).map Ag)):=by
 refine Hg Bhw fun Q hQ=>?_;simp;refine ey (A:=[]) (G:=[]) (Fp _ _ _) (by simp[A1]; omega) rfl (Ea _ _ Iq) fun tok G Bt hG=>?_;simp;refine ey (A:=[]) (G:=G) (by simpa using Bt) (by simp[A1]; omega) (Ea _ _ Iq) (Ea _ _ Iq) fun tok' G' Bv Ei=>?_;simp;rw[<- List.map_append];exact hQ (by simp[-List.map_append])
def Bmx(c:Cn)(l:Ax)(hd:Bo c<=1000000000):∃r b,Hc 46 [Ad c,.sl .none (l.map Ag)] (Oo r b)/\(b=true->Ar (Do l.reverse c 0)=true/\∃m,Fu [Do l.reverse c 0] 10000 [r] m):=by
 have Sg:=Ayq l;have D4:=kb l.reverse c hd;obtain⟨r,b,ht,hb⟩:=Ax1 (Do l.reverse c 0);refine⟨r,b,?_,hb⟩;clear hb;generalize Do l.reverse c 0=u at D4 ht;generalize l.reverse=l' at Sg D4;refine Hg Bhu fun Q hQ=>?_;simp[Ad,Ap c];refine Gr (fun _=>true) [] Bc Bc ?_;simp;refine Da Sg ?_;simp;refine Da D4 ?_;simp[Ad,Ap u];refine⟨fun b cs _ hb=>by simpa using E4 (L:=[_]) hb,?_⟩;refine Ca ht ?_;simp[Oo,Ad,Ap r];exact hQ (by simp[Oo,Ad,Ap r])
inductive fe (out:Sm):Sm×Bool->Prop
 |no (h:Cu out=false):fe out (Dl,false)
 |bad (r:Sm) (h:Cu out=true) (hn:Hc 116 [An out] (Ex r false)):fe out (Dl,false)
 |great (r:Sm) (h:Cu out=true) (hn:Hc 116 [An out] (Ex r true)) (hc:Dd r) (hr:Cu r=false):fe out (Dl,false)
 |good (r:Sm) (h:Cu out=true) (hn:Hc 116 [An out] (Ex r true)) (hc:Dd r) (hr:Cu r=true):fe out (r,true)
def Bmv(s up out:Sm)(m:Nat)(hm:m<=1000)(l:Ax)(hl:l.length<=1000)(hup:Hc 43 [An s,.int .i64 m,.int .i64 ((m:Int)+l.length)] (An up))
 (D4:Hc 115 [An up,.sl .none ((T8 m l).map Ag)] (An out)) (hco:Dd out) (z:Sm×Bool) (hz:fe out z):
 Hc 44 [An s,.int .i64 m,.sl .none (l.map Ag)] (Ex z.1 z.2):=by
 obtain⟨L,hL⟩:∃L:Ax,L=(List.range m).map fun i:Nat=>Ch (i:Int):=⟨_,rfl⟩;have hlen:L.length=m:=by rw[hL]; simp
 have Lj:∀k (h:k<L.length),L[k]=Ch (k:Int):=fun k h=>by simp[hL]
 obtain⟨S,hS⟩:∃S:Ax,S=l.map fun x=>Dm x m 0:=⟨_,rfl⟩;have hSl:S.length=l.length:=by rw[hS]; simp
 have hSg:∀k (h:k<l.length) (h':k<S.length),S[k]=Dm l[k] m 0:=fun k h h'=>by simp[hS]
 have hby:T8 m l=L++S.reverse:=by rw[T8,hL,hS,Ag8]
 rw[hby]at D4;clear hby hL hS;have hfo:=we out hco;have hw0:=Au (n:=(m:Int)+l.length) Aa Aa;refine Hg Bhs fun Q hQ=>?_;simp[An,Av s,hw0];refine Ca hup ?_;simp[An,Av up];refine WL [] (fun n f h G=>∃(k:Nat) (tok:Dh) (done:Ax),k+n=m/\done=L.take k/\f 10= .int .i64 k/\f 9= .sl tok (done.map Ag)/\owns 3 G tok (done.map Ag) 6) (m) Ab ⟨0,.nilT,[],Ab,rfl,rfl,rfl,Fp _ _ _⟩ ?_;rintro n f h G ⟨k,tok,done,hk,I5,Ig,h9,Bt⟩ Q2 Aj;simp[Ig,h9];by_cases Af:k<m
 . have Cc:(k:Int)<(m:Int):=by omega
   have hkL:k<L.length:=Aa;have hv:=Aek k;rw[<- Lj k hkL]at hv;have ht:L.take (k+1)=done++[L[k]]:=by rw[I5]; exact Nj L k hkL
   have Nt:done.length=k:=by rw[I5,eo]; omega
   clear I5;generalize L[k]=x at hv ht;simp[Af];refine Ca hv ?_;simp[Ad,Dx];refine Ss (A:=[_,_,_]) (by simpa using Bt) (by simp[A1]; omega) (Ea _ _ Iq) Ab fun tok' G' Bv Ei=>?_;simp[Au (n:=(k:Int)+1) Aa Aa];refine Aj (Ln h ?_);exact⟨k+1,tok',done++[x],Aa,ht.symm,Ab,Ab,by simpa using Bv⟩
 have Cc:¬(k:Int)<(m:Int):=by omega
 obtain rfl:k=m:=Aa;obtain rfl:L=done:=by rw[I5]; exact(Gj Aa).symm
 clear I5;simp[Af];refine Aj (Lx ?_);clear Aj h9 Ig;simp[Au (n:=(l.length:Int)-1) Aa Aa];refine Ip (A9.loopG (A:=[_,_,_]) (G0:=G) [] (fun n f h G=>∃(tok:Dh) (done:Ax),n<=l.length/\done=(S.drop n).reverse/\f 11= .int .i64 ((n:Int)-1)/\f 9= .sl tok (L.map Ag++done.map Ag)/\owns 3 G tok (L.map Ag++done.map Ag) 6) l.length Ab ⟨tok,[],Bm _,by rw[Cm Aa]; rfl,rfl,Ab,by simpa using Bt⟩ ?_);rintro n f h G ⟨tok,done,hn,I5,Fw,h9,Bt⟩;refine Ru fun Q2 Aj=>?_;simp[Fw,h9];by_cases Af:1<=n
 . have Cc:(0:Int)<=(n:Int)-1:=by omega
   have Se:(1:Int)<=(n:Int):=Aa;have hk:n-1<l.length:=Aa;have hkS:n-1<S.length:=Aa;have e1:((n:Int)-1).toNat=n-1:=Aa;have hd:=Ct hkS;rw[show n-1+1=n by omega]at hd;have e2:(S.drop (n-1)).reverse=done++[S[n-1]]:=by rw[hd,I5]; simp
   have S6:done.length+1<=l.length:=by rw[I5]; simp;omega
   have Br:=dd l[n-1] k 0;rw[<- hSg (n-1) hk hkS]at Br;clear I5 hd;generalize S[n-1]=x at e2 Br;simp[Se,e1,hk];refine Ca Br ?_;simp[Ad,Dx];refine Ss (A:=[_,_,_]) (by simpa using Bt) (by simp[A1]; omega) (by rw[<- List.map_append]; exact Ea _ _ Iq) Ab fun tok' G' Bv Ei=>?_;simp[Au (n:=(n:Int)-1-1) Aa Aa];refine Aj (Ln h ?_);exact⟨tok',done++[x],Aa,e2.symm,by simp;omega,Ab,by simpa using Bv⟩
 have Cc:¬(0:Int)<=(n:Int)-1:=by omega
 obtain rfl:n=0:=Aa;have e2:done=S.reverse:=by rw[I5]; simp
 rw[<- e2]at D4;clear I5 e2;simp;refine Aj (Lx ?_);simp;rw[<- List.map_append];refine Ca D4 ?_ (ha:=by simp[-List.map_append]) (hr:=by simp[-List.map_append]) (he:=by simp[An,Av up, -List.map_append]);clear D4;simp[An,Av out];refine Ca hfo ?_;clear hfo
 cases hz with
 |no hq=>
  rw[hq];simp
  exact hQ (by simp[Ex,An,Kl])
 |bad r hq hnn=>
  rw[hq];simp;refine Ca hnn ?_;simp[Ex,An,Av r]
  exact hQ (by simp[Ex,An,Kl])
 |great r hq hnn hc hr=>
  have hfr:=we r hc;rw[hr]at hfr;rw[hq];simp;refine Ca hnn ?_;simp[Ex,An,Av r];refine Ca hfr ?_;simp
  exact hQ (by simp[Ex,An,Kl])
 |good r hq hnn hc hr=>
  have hfr:=we r hc;rw[hr]at hfr;rw[hq];simp;refine Ca hnn ?_;simp[Ex,An,Av r];refine Ca hfr ?_;simp;exact hQ (by simp[Ex,An,Av r])
def Th(m:Nat)(l:List Cn)(s:Sm):Sm:=Gg (fun c k=>Do (T8 m l) c k) (Gg (fun c k=>Dm c m k) s ((m:Int)+l.length)) 0
def Bmu(h:Nat)(s:Sm)(hs:Zm 20000 400 h s)(hh:h<=400)(m:Nat)(hm:m<=1000)(l:Ax)(hl:l.length<=1000)(Kc:∀x∈l,Al x<=20000/\Bo x<=400):
 ∃r b,Hc 44 [An s,.int .i64 m,.sl .none (l.map Ag)] (Ex r b)/\(b=true->Cu (Th m l s)=true/\NS (Th m l s) r/\Cu r=true):=by
 have hz:=wy (B:=20000) (D:=400) (Bm _) (Bm _) (fun c k=>Dm c m k) (fun c k h1 h2=>by have:=kj m c k;omega) h s ((m:Int)+l.length) hs
 have hbyz:∀x∈T8 m l,Al x<=20000/\Bo x<=400:=fun x hx=>by
  rw[T8]at hx;rcases List.mem_append.1 hx with hx|hx
  . obtain⟨i,_,rfl⟩:=List.mem_map.1 hx;simp[Ch,Al,Bd,Bo,Cz]
  obtain⟨y,hy,rfl⟩:=List.mem_map.1 hx;have h1:=Kc y (by simpa using hy);have h2:=kj m y 0;omega
 have hoz:=wy (B:=20000) (D:=400) (B':=400000000) (D':=800) Aa Aa (fun c k=>Do (T8 m l) c k) (fun c k h1 h2=>by
  have h3:=Azd (T8 m l) 20000 400 Aa Aa hbyz c k;have h4:=Aab 20000 h1
  omega) h _ 0 hz
 have hup:=Aem m ((m:Int)+l.length) h s (ow Aa h s hs) Aa;have D4:=Bl5 (T8 m l) h _ (ow Aa h _ hz) Aa;have hco:=A02 Aa h _ hoz;have walk:=fun z hT=>Bmv s _ _ m hm l hl hup D4 hco z hT;change Dd (Th m l s)at hco;change ∀z,fe (Th m l s) z->_ at walk;obtain⟨r,b,hn,hb⟩:=Aye (Th m l s);cases hf:Cu (Th m l s)
 . exact⟨_,_,walk _ (.no hf),Ab⟩
 cases b
 . exact⟨_,_,walk _ (.bad r hf hn),Ab⟩
 have hns:=hb rfl;have P6:=Ahe _ _ hco hns;cases hr:Cu r
 . exact⟨_,_,walk _ (.great r hf hn P6 hr),Ab⟩
 exact⟨_,_,walk _ (.good r hf hn P6 hr),fun _=>⟨rfl,hns,hr⟩⟩
def Av2(l:List Cn):∀(n:Nat) (c:Cn) (d:Int),Qg n c->Qg n (Do l c d)
 |0,_,_,_=>trivial
 |n+1,c,d,⟨h1,x,r,h2,h3⟩=>by
  rw[Azc,Ac Aa];refine⟨h1,Do l x (if Bw c.op=true then IntKind.i64.wrap (d+1)else d),r.map fun x=>Do l x (if Bw c.op=true then IntKind.i64.wrap (d+1)else d),?_,Av2 l n x _ h3⟩;show c.l.map _=_;rw[h2]; rfl
def Bme(c:Cn)(t:Te):Hc 203 [Ad c,.sl .none [],Ah t] (Hv t true):=by
 refine Hg Ad7 fun Q hQ=>?_;simp[Ad,Ap c,Ah,Aq t];exact hQ (by simp[Hv,Ah,Aq t])
def Bmf(c x:Cn)(l:Ax)(t:Te)(hv:Ar c=false):Hc 203 [Ad c,.sl .none (Ag x::l.map Ag),Ah t] (Hv Cj false):=by
 have h:=Lw c;rw[hv]at h;have h0:¬(l.length:Int)+1=0:=Aa;refine Hg Ad7 fun Q hQ=>?_;simp[Ad,Ap c,Ah,Aq t,h0];refine Ca h ?_;simp;exact hQ (by simp[Hv,Ah,Km])
def pkN(x c:Cn)(t:Te):Te:=.mk 8 0 [] x c (.mk []) [] [t]
def Bm2(x c:Cn)(t:Te):Bi (pkN x c t)=[.int .i64 8,.int .i64 0,.str [],.int .i64 x.op,.int .i64 x.n,.str x.s,.sl .none (x.k.l.map Ak),.sl .none (At x.names),.sl .none (x.l.map Ag),.int .i64 c.op,.int .i64 c.n,.str c.s,.sl .none (c.k.l.map Ak),.sl .none (At c.names),.sl .none (c.l.map Ag),.sl .none [],.sl .none [],.sl .none [Bi t]]:=by
 rw[pkN,Va]; rfl
def A4l(x:Cn)(l:Ax):asl .none (Ag x::l.map Ag) (some (.int .i64 1)) none none=some (.sl .none (l.map Ag)):=by
 have h1:(1:Int)<=(l.length:Int)+1:=Aa;have e:(l.map Ag).take l.length=l.map Ag:=Gj Ab;simp[asl,Pe,h1,U8,e]
def A9t(x:Cn)(l:Ax):D3 6 (Ag x::l.map Ag)=true:=Ea Ag (x::l) Iq
def Bmg(c x y z:Cn)(r l:Ax)(t u:Te)(b:Bool)(hv:Ar c=true)(hl:c.l=y::r)
 (hs:Hc 117 [Ad y,.sl .none [Ag x]] (Ad z))
 (hk:Hc 203 [Ad z,.sl .none (l.map Ag),Ah t] (Hv u b)):Hc 203 [Ad c,.sl .none (Ag x::l.map Ag),Ah t] (Hv (pkN x c u) b):=by
 have h:=Lw c;rw[hv]at h;have h0:¬(l.length:Int)+1=0:=Aa;have h1:(1:Int)<=(l.length:Int)+1:=Aa;have h2:(0:Int)<(l.length:Int)+1:=Aa;have h3:(0:Int)<=(l.length:Int)+1:=Aa;refine Hg Ad7 fun Q hQ=>?_;simp[Ad,Ap c,Ah,Aq t,h0];refine Ca h ?_;simp;refine Gr (fun _=>true) [] Bc Bc ?_;simp[hl];refine Da hs ?_ (he:=by simp[Ad,Ap x,Ap y]);simp[Ad,Ap z,A4l,A9t];refine Da hk ?_;simp[Hv,Ah,Aq u];refine⟨fun b cs _ hb=>by simpa using E4 (L:=[_]) hb,?_⟩;refine Gr (fun b=>b != 2) [] Bc Bc ?_;simp[Ap x,Dx];refine⟨Adb [_,_,_,_] 2 _,?_⟩;exact hQ (by simp[Hv,Ah,Bm2,Aq u,hl])
def Ayl:∀(l:List Cn) (c:Cn) (t:Te),Qg l.length c->∃u b,Hc 203 [Ad c,.sl .none (l.map Ag),Ah t] (Hv u b)
 | [],c,t,_=>⟨t,true,Bme c t⟩
 |x::l,c,t,hn=>by
  cases hv:Ar c
  . exact⟨_,_,Bmf c x l t hv⟩
  obtain⟨h1,y,r,h2,h3⟩:=hn;obtain⟨u,b,hk⟩:=Ayl l (Do [x] y 0) t (Av2 _ _ _ _ h3);have hd:=(Gz (Jq hv (x:=y) (by rw[h2]; simp))).2.1;exact⟨_,_,Bmg c x y _ r l t u b hv h2 (kb [x] y Aa) hk⟩
def Ayj(ks:B6)(s:Sm)(hw:Sp s)(l:Ax)(hl:l.length=ks.length)(t:Te):∃u b,Hc 120 [C8 ks s,.sl .none (l.map Ag),Ah t] (Hv u b):=by
 have ha:=Bmb ks s hw;have hn:=Aav ks (Ez s);rw[<- hl]at hn;generalize C9 10 ks (Ez s)=c at ha hn;have hv:=Lw c;cases hvc:Ar c
 . rw[hvc]at hv;refine⟨Cj,false,?_⟩;refine Hg vt fun Q hQ=>?_;simp[C8,Av s,Ah,Aq t];refine Ca ha ?_;simp[Ad,Ap c];refine Ca hv ?_;simp;exact hQ (by simp[Hv,Ah,Km])
 rw[hvc]at hv;obtain⟨u,b,hk⟩:=Ayl l c t hn;obtain⟨v,hu,_⟩:=Ax6 u;clear hn hvc hw;cases b
 . refine⟨Cj,false,?_⟩;refine Hg vt fun Q hQ=>?_;simp[C8,Av s,Ah,Aq t];refine Ca ha ?_;simp[Ad,Ap c];refine Ca hv ?_;simp;refine Ca hk ?_;simp[Hv,Ah,Aq u];exact hQ (by simp[Hv,Ah,Km])
 cases v
 . refine⟨Cj,false,?_⟩;refine Hg vt fun Q hQ=>?_;simp[C8,Av s,Ah,Aq t];refine Ca ha ?_;simp[Ad,Ap c];refine Ca hv ?_;simp;refine Ca hk ?_;simp[Hv,Ah,Aq u];refine Ca hu ?_;simp;exact hQ (by simp[Hv,Ah,Km])
 refine⟨u,true,?_⟩;refine Hg vt fun Q hQ=>?_;simp[C8,Av s,Ah,Aq t];refine Ca ha ?_;simp[Ad,Ap c];refine Ca hv ?_;simp;refine Ca hk ?_;simp[Hv,Ah,Aq u];refine Ca hu ?_;simp;exact hQ (by simp[Hv,Ah,Aq u])
def Bmz(l:B6):Hc 108 [.sl .none (l.map Ak)] (.bool (J2 l)):=by
 have h:=Axs l;have key:J2 l=(decide (l.length<=1000)&&l.all Eu):=rfl;generalize l.all Eu=b at h key;by_cases hl:l.length<=1000
 . have Ci:(l.length:Int)<=1000:=by omega
   have key:J2 l=b:=by rw[key]; simp[hl]
   refine Hg Aw5 fun Q hQ=>?_;simp[Ci];refine Ca h ?_;simp;exact hQ
 have Ci:¬(l.length:Int)<=1000:=by omega
 have key:J2 l=false:=by rw[key]; simp[hl]
 refine Hg Aw5 fun Q hQ=>?_;simp[Ci];exact hQ
def Axu(l:Ax):Hc 40 [.sl .none (l.map Ag)] (.bool (l.all Ar)):=by
 refine Hf Bgc fun Am Q hQ=>?_;have B5:l.length<=1073741824:=by simpa[Bl,AV.fits,A1]using Am.1.1
 clear Am;simp;refine WL [] (fun n f h G=>∃k:Nat,k+n=l.length/\f 3= .int .i64 k/\l.all Ar=(l.drop k).all Ar) (l.length) Ab ⟨0,Ab,rfl,Ab⟩ ?_;rintro n f h G ⟨k,hk,h3,ha⟩ Q2 Aj;simp[h3];by_cases Af:k<l.length
 . have Cc:(k:Int)<(l.length:Int):=by omega
   have h0:(0:Int)<=(k:Int):=Aa;have hd:=Ct Af;rw[hd,Er]at ha;have hv:=Lw l[k];generalize Ar l[k]=v at hv ha;clear hd;simp[Af,h0];refine Ca hv ?_;cases v
   . simp;refine Aj (Lr ?_);simp;exact hQ
   simp[Au (n:=(k:Int)+1) Aa Aa];refine Aj (Ln h ?_);exact⟨k+1,Aa,Ab,by simpa using ha⟩
 have Cc:¬(k:Int)<(l.length:Int):=by omega
 rw[Cm Aa]at ha;simp[Af];refine Aj (Lx ?_);simp;exact hQ
open Classical in
noncomputable def U6(t:Te):Bool:=decide (Ds 400 t/\wT t<=20000)
open Classical in
def oh(t:Te):U6 t=true↔Ds 400 t/\wT t<=20000:=by unfold U6;exact decide_eq_true_iff
def Ail{a b:Bool}(h:a=true↔b=true):a=b:=by
 cases a<;>cases b<;>simp at h ⊢
def Ax7(t:Te):Hc 41 [Ah t] (.bool (U6 t)):=by
 obtain⟨b,h,hb⟩:=Ax6 t;rw[Ail (hb.trans (oh t).symm)]at h;exact h
def A1n{t:Te}(h:Dg t):Pk t=U6 t:=Ail ((xl h).trans (oh t).symm)
noncomputable def I9(e:El):Bool:=J2 e.ks&&Cu e.s&&U6 e.t&&e.w.all Ar&&On e
def Vp{e:El}(h:Kv e):R0 e=I9 e:=by rw[R0,I9,A1n h.t]
def kh(e:El)(hc:Dd e.s):Hc 39 [As e] (.bool (I9 e)):=by
 have h1:=Bmz e.ks;have h2:=we e.s hc;have h3:=Ax7 e.t;have h4:=Axu e.w;have key:I9 e=(J2 e.ks&&Cu e.s&&U6 e.t&&e.w.all Ar&&On e):=rfl;generalize I9 e=r at key ⊢;generalize J2 e.ks=b at h1 key;generalize Cu e.s=f at h2 key;generalize U6 e.t=v at h3 key;generalize e.w.all Ar=c at h4 key;cases b
 . obtain rfl:r=false:=by simpa using key
   refine Hg Zi fun Q hQ=>?_;simp[As,A7 e];refine Ca h1 ?_;simp;exact hQ
 cases f
 . obtain rfl:r=false:=by simpa using key
   refine Hg Zi fun Q hQ=>?_;simp[As,A7 e];refine Ca h1 ?_;simp;refine Ca h2 ?_;simp;exact hQ
 cases v
 . obtain rfl:r=false:=by simpa using key
   refine Hg Zi fun Q hQ=>?_;simp[As,A7 e];refine Ca h1 ?_;simp;refine Ca h2 ?_;simp;refine Ca h3 ?_;simp;exact hQ
 cases c
 . obtain rfl:r=false:=by simpa using key
   refine Hg Zi fun Q hQ=>?_;simp[As,A7 e];refine Ca h1 ?_;simp;refine Ca h2 ?_;simp;refine Ca h3 ?_;simp;refine Ca h4 ?_;simp;exact hQ
 obtain rfl:r=On e:=by simpa using key
 clear key;obtain⟨q,hq⟩:∃q,q=On e:=⟨_,rfl⟩;rw[<- hq];unfold On at hq;generalize I6:e.pure=pu at hq;cases pu
 . rw[Ac Ab]at hq;by_cases hw:e.w.length=0
   . obtain rfl:q=true:=by rw[hq]; simp[hw]
     clear hq;have Tc:(e.w.length:Int)=0:=Aa;refine Hg Zi fun Q hQ=>?_;simp[As,A7 e];refine Ca h1 ?_;simp;refine Ca h2 ?_;simp;refine Ca h3 ?_;simp;refine Ca h4 ?_;simp[I6,hw];exact hQ
   obtain rfl:q=false:=by rw[hq]; simp[hw]
   clear hq;have Tc:¬(e.w.length:Int)=0:=Aa;refine Hg Zi fun Q hQ=>?_;simp[As,A7 e];refine Ca h1 ?_;simp;refine Ca h2 ?_;simp;refine Ca h3 ?_;simp;refine Ca h4 ?_;simp[I6,hw];exact hQ
 rw[Ae rfl]at hq;by_cases hw:e.w.length=e.ks.length
 . obtain rfl:q=true:=by rw[hq]; simp[hw]
   clear hq;refine Hg Zi fun Q hQ=>?_;simp[As,A7 e];refine Ca h1 ?_;simp;refine Ca h2 ?_;simp;refine Ca h3 ?_;simp;refine Ca h4 ?_;simp[I6,hw];exact hQ
 obtain rfl:q=false:=by rw[hq]; simp[hw]
 clear hq;have Tc:¬(e.w.length:Int)=(e.ks.length:Int):=Aa;refine Hg Zi fun Q hQ=>?_;simp[As,A7 e];refine Ca h1 ?_;simp;refine Ca h2 ?_;simp;refine Ca h3 ?_;simp;refine Ca h4 ?_;simp[I6,Tc];exact hQ
def Bmi(e:El):Hc 121 [As e] (C8 e.ks e.s):=by
 refine Hg Bho fun Q hQ=>?_;simp[As,A7 e];exact hQ (by simp[C8,Av e.s])
def wj(f a:Te):Hc 47 [Ah f,Ah a] (Ah (C5 5 0 [f,a])):=by
 refine Hg Bht fun Q hQ=>?_;simp[Ah,Aq f,Aq a];exact hQ (by simp[Ah,d7,Aq f,Aq a])
def Gi(t:Te)(c:Cn):Te:=.mk 7 0 [] c A3 (.mk []) [] [t]
def Bqn(t:Te)(c:Cn):Bi (Gi t c)=[.int .i64 7,.int .i64 0,.str [],.int .i64 c.op,.int .i64 c.n,.str c.s,.sl .none (c.k.l.map Ak),.sl .none (At c.names),.sl .none (c.l.map Ag),.int .i64 0,.int .i64 0,.str [],.sl .none [],.sl .none [],.sl .none [],.sl .none [],.sl .none [],.sl .none [Bi t]]:=by
 rw[Gi,Va]; rfl
structure Rr (cs:List AV) (z:Te):Prop where
 s:Ce cs=Bi z
 n:cs.length=18
 a:cs.all AV.isCell=true
def Rr.of(z:Te):Rr (Bi z) z:=⟨Ab,Ab,Ab⟩
def Rr.take{cs:Ao}{z:Te}(h:Rr cs z):cs.take 18=cs:=Gj (by rw[h.n]; omega)
def Rr.drop{cs:Ao}{z:Te}(h:Rr cs z):cs.drop 18=[]:=A3n (by rw[h.n]; omega)
def Rr.cells{cs:Ao}{z:Te}(h:Rr cs z):∀x∈cs,AV.isCell x=true:=List.all_eq_true.1 h.a
def A1l{cs:Ao}{z:Te}(h:Rr cs z)(c:Cn)(tok:Dh)(t1 t2 t3 t4 t5:Dh):Rr [.int .i64 7,.int .i64 0,.str [],.int .i64 c.op,.int .i64 c.n,.str c.s,.sl .none (c.k.l.map Ak),.sl .none (At c.names),.sl .none (c.l.map Ag),.int .i64 0,.int .i64 0,.str [],.sl t1 [],.sl t2 [],.sl t3 [],.sl t4 [],.sl t5 [],.sl tok [cs]] (Gi z c):=
 ⟨by rw[Bqn]; simp[h.s],rfl,rfl⟩
def Ayr(t:Te)(l:Ax):Hc 48 [Ah t,.sl .none (l.map Ag)] (Ah (l.foldl Gi t)):=by
 refine Hf Bhz fun Am Q hQ=>?_;have B5:l.length<=1073741824:=by simpa[Bl,AV.fits,A1]using Am.2.1.1
 clear Am;simp[Ah,Aq t];refine Ip (A9.loopS (fun cs:Ao=>[.var cs,.var Hy]) (fun n f cs G=>G=[]/\∃(k:Nat) (z:Te),k+n=l.length/\f 5= .int .i64 k/\z=(l.take k).foldl Gi t/\Rr cs z) l.length (Bi t) [] (by simp[Aq t,Hy]) ⟨rfl,0,t,Ab,rfl,rfl,.of t⟩ ?_);rintro n f cs G ⟨rfl,k,z,hk,h5,hz,B7⟩;have g1:=B7.n;have g2:=B7.take;have g3:=B7.drop;have g4:=B7.a;have g5:=B7.cells;refine Ru fun Q2 Aj=>?_;simp[h5];by_cases Af:k<l.length
 . have Cc:(k:Int)<(l.length:Int):=by omega
   have h0:(0:Int)<=(k:Int):=Aa;have ht:=Nj l k Af;have hn2:Gi z l[k]=(l.take (k+1)).foldl Gi t:=by rw[ht,Ag5,<-hz]; rfl
   clear ht hz;simp[Af];refine Wd ?_;simp[Af,h0,Au (n:=(k:Int)+1) Aa Aa,Ap l[k],Dx,g1,g2,g3,g4];refine Aj (Rb (n-1) _ (G':=[]) rfl Aa Ab ?_);exact⟨rfl,k+1,Gi z l[k],Aa,Ab,hn2,A1l B7 _ _ _ _ _ _ _⟩
 have Cc:¬(k:Int)<(l.length:Int):=by omega
 rw[Gj Aa]at hz;rw[<- hz]at hQ;simp[Af];refine Aj (Sk ?_);show KE _ 0 _ Q _ _;simp[g1,g2,g4,Hy];exact hQ (by simp[Ah,B7.s,g1,g2])
def Aeo(n:Int)(t i:Te)(h0:0<=n)(h1:n<=1000000):∃r,Hc 55 [.int .i64 n,Ah t,Ah i] (Ah r):=by
 by_cases hn:n=0
 . subst hn;refine⟨C5 17 0 [t,i],?_⟩;refine Hg Aw6 fun Q hQ=>?_;simp[Ah,Aq t,Aq i];exact hQ (by simp[Ah,d7,Aq t,Aq i])
 obtain⟨N,hN⟩:∃N:Nat,n=N+1:=⟨(n-1).toNat,Aa⟩;subst hN;refine⟨C5 9 0 [t,Nv N i],?_⟩;refine Hg Aw6 fun Q hQ=>?_;simp[Ah,Aq t,Aq i,hn];refine Ip (A9.loopS (fun cs:Ao=>[.var (Bi t),.var cs,.var Hy]) (fun m f cs G=>G=[]/\∃(k:Nat) (z:Te),k+m=N/\f 7= .int .i64 ((k:Int)+1)/\z=Nv k i/\Rr cs z) N (Bi i) [] (by simp[Aq t,Aq i,Hy]) ⟨rfl,0,i,Ab,rfl,rfl,.of i⟩ ?_);rintro m f cs G ⟨rfl,k,z,hk1,h7,hz,B7⟩;have g1:=B7.n;have g2:=B7.take;have g3:=B7.drop;have g4:=B7.a;have g5:=B7.cells;refine Ru fun Q2 Aj=>?_;simp[h7];by_cases Af:k<N
 . have Cc:(k:Int)+1<(N:Int)+1:=by omega
   have Gm:(k:Int)<(N:Int):=Aa;have hn2:Nv (k+1) i=C5 9 0 [C5 1 0 [],z]:=by rw[Nv,hz]
   simp[Af,g1,g2,g3,g4,Dx,Au (n:=(k:Int)+1+1) Aa Aa];refine Aj (Rb (m-1) _ (G':=[]) rfl Aa Ab ?_);refine⟨rfl,k+1,C5 9 0 [C5 1 0 [],z],Aa,Ab,hn2.symm,?_,?_,?_⟩
   . simp[d7,B7.s]
   . rfl
   rfl
 have Cc:¬(k:Int)+1<(N:Int)+1:=by omega
 have Gm:¬(k:Int)<(N:Int):=Aa;obtain rfl:k=N:=Aa;rw[<- hz]at hQ;simp[Af];refine Aj (Sk ?_);show KE _ 0 _ Q _ _;simp[g1,g2,g4,Hy,Aq t,Dx];exact hQ (by simp[Ah,d7,B7.s,Aq t])
def Bmw(e:El)(hc:Dd e.s):Hc 51 [As e] (Cr (if I9 e=true then(e,0)else(D7,6))):=by
 have h:=kh e hc;generalize I9 e=b at h ⊢;cases b
 . refine Hg Aw4 fun Q hQ=>?_;simp[As];refine Ca h ?_;simp;exact hQ (by simp[Cr,As,Hm,Cx])
 refine Hg Aw4 fun Q hQ=>?_;simp[As];refine Ca h ?_;simp;exact hQ (by simp[Cr,As])
def Ayp(ks:B6)(s:Sm)(h:Nat)(hs:X5 h s)(hw:Sp s)(hk:ks.length<=20000)(t:Te):∃u b,Hc 54 [C8 ks s,Ah t] (Hv u b):=by
 have h1:=Aem (ks.length:Int) ks.length h s hs Aa;have Ze:=Az4 (fun c k=>Dm c (ks.length:Int) k) s ks.length hw;generalize Gg (fun c k=>Dm c (ks.length:Int) k) s ks.length=y at h1 Ze;have h2:=Bm0 ks.length Aa;have hl:((List.range ks.length).map fun i:Nat=>Ch (i:Int)).reverse.length=ks.length:=Ab;generalize ((List.range ks.length).map fun i:Nat=>Ch (i:Int)).reverse=l at h2 hl;obtain⟨u,b,h3⟩:=Ayj ks y Ze l hl t;refine⟨u,b,?_⟩;clear Ze hw hl hs;refine Hg Bhx fun Q hQ=>?_;simp[C8,Av s,Ah,Aq t];refine Gr (fun b=>b != 2) [] Bc Bc ?_;simp;refine Da h1 ?_;simp[An,Av y];refine Da h2 ?_;simp;refine Da h3 ?_;simp[Hv,Ah,Aq u];refine⟨Adb [_,_,_] 2 _,?_⟩;exact hQ (by simp[Hv,Ah,Aq u])
def Aym(e:El)(hc:Dd e.s)(hf:I9 e=true)(hw:Sp e.s):∃x g,Hc 52 [As e] (Cr (x,g))/\(g=0\/g=6):=by
 have h:=kh e hc;rw[hf]at h;have h1:=Bmi e;cases hp:e.pure
 . refine⟨e,0,?_,.inl rfl⟩;refine Hg Ad8 fun Q hQ=>?_;simp[As,A7 e];refine Ca h ?_;simp[hp];exact hQ (by simp[Cr,As,A7 e,hp])
 have hl:e.w.length=e.ks.length:=by
  unfold I9 at hf;simp only[Bb]at hf;have h5:=hf.2;unfold On at h5;rw[Ae hp]at h5;simpa using h5
 obtain⟨u,b,h2⟩:=Ayj e.ks e.s hw e.w hl e.t;clear hl hf hw hc;cases b
 . refine⟨D7,6,?_,.inr rfl⟩;refine Hg Ad8 fun Q hQ=>?_;simp[As,A7 e];refine Ca h ?_;simp[hp];refine Gr (fun _=>true) [] Bc Bc ?_;simp;refine Da h1 ?_ (he:=by simp[As,A7 e,hp]);simp[C8,Av e.s];refine Da h2 ?_;simp[Hv,Ah,Aq u];refine⟨fun b cs _ hb=>by simpa using E4 (L:=[_]) hb,?_⟩;exact hQ (by simp[Cr,As,Hm,Cx])
 refine⟨elI e u,0,?_,.inl rfl⟩;refine Hg Ad8 fun Q hQ=>?_;simp[As,A7 e];refine Ca h ?_;simp[hp];refine Gr (fun _=>true) [] Bc Bc ?_;simp;refine Da h1 ?_ (he:=by simp[As,A7 e,hp]);simp[C8,Av e.s];refine Da h2 ?_;simp[Hv,Ah,Aq u];refine⟨fun b cs _ hb=>by simpa using E4 (L:=[_]) hb,?_⟩;exact hQ (by simp[Cr,As,elI,A7])
def Bmn(f a:El)(l:Ax)(c:Te)(hf:Hc 39 [As f] (.bool false)):Hc 7 [As f,As a,.sl .none (l.map Ag),Ah c] (Cr (D7,1)):=by
 refine Hg V8 fun Q hQ=>?_;simp[As,A7 f,A7 a,Ah,Aq c];refine Ca hf ?_;simp;exact hQ (by simp[Cr,As,Hm,Cx])
def Bmo(f a:El)(l:Ax)(c:Te)(hf:Hc 39 [As f] (.bool true))(ha:Hc 39 [As a] (.bool false)):Hc 7 [As f,As a,.sl .none (l.map Ag),Ah c] (Cr (D7,1)):=by
 refine Hg V8 fun Q hQ=>?_;simp[As,A7 f,A7 a,Ah,Aq c];refine Ca hf ?_;simp;refine Ca ha ?_;simp;exact hQ (by simp[Cr,As,Hm,Cx])
def Bmp(f a:El)(l:Ax)(c:Te)(hf:Hc 39 [As f] (.bool true))(ha:Hc 39 [As a] (.bool true))(hl:Hc 40 [.sl .none (l.map Ag)] (.bool false)):Hc 7 [As f,As a,.sl .none (l.map Ag),Ah c] (Cr (D7,1)):=by
 refine Hg V8 fun Q hQ=>?_;simp[As,A7 f,A7 a,Ah,Aq c];refine Ca hf ?_;simp;refine Ca ha ?_;simp;refine Ca hl ?_;simp;exact hQ (by simp[Cr,As,Hm,Cx])
def Bmq(f a:El)(l:Ax)(c:Te)(hf:Hc 39 [As f] (.bool true))(ha:Hc 39 [As a] (.bool true))(hl:Hc 40 [.sl .none (l.map Ag)] (.bool true))(hc:Hc 41 [Ah c] (.bool false)):Hc 7 [As f,As a,.sl .none (l.map Ag),Ah c] (Cr (D7,1)):=by
 refine Hg V8 fun Q hQ=>?_;simp[As,A7 f,A7 a,Ah,Aq c];refine Ca hf ?_;simp;refine Ca ha ?_;simp;refine Ca hl ?_;simp;refine Ca hc ?_;simp;exact hQ (by simp[Cr,As,Hm,Cx])
def Bmr(f a:El)(l:Ax)(c:Te)(hf:Hc 39 [As f] (.bool true))(ha:Hc 39 [As a] (.bool true))(hl:Hc 40 [.sl .none (l.map Ag)] (.bool true))(hc:Hc 41 [Ah c] (.bool true))(hop:¬f.s.op=6):Hc 7 [As f,As a,.sl .none (l.map Ag),Ah c] (Cr (D7,12)):=by
 refine Hg V8 fun Q hQ=>?_;simp[As,A7 f,A7 a,Ah,Aq c];refine Ca hf ?_;simp;refine Ca ha ?_;simp;refine Ca hl ?_;simp;refine Ca hc ?_;simp[hop];exact hQ (by simp[Cr,As,Hm,Cx])
def Bms(f a:El)(l:Ax)(c:Te)(hf:Hc 39 [As f] (.bool true))(ha:Hc 39 [As a] (.bool true))(hl:Hc 40 [.sl .none (l.map Ag)] (.bool true))(hc:Hc 41 [Ah c] (.bool true))(hop:f.s.op=6)(hlen:¬l.length=f.s.ks.length):Hc 7 [As f,As a,.sl .none (l.map Ag),Ah c] (Cr (D7,1)):=by
 have Vv:¬(l.length:Int)=(f.s.ks.length:Int):=Aa;refine Hg V8 fun Q hQ=>?_;simp[As,A7 f,A7 a,Ah,Aq c];refine Ca hf ?_;simp;refine Ca ha ?_;simp;refine Ca hl ?_;simp;refine Ca hc ?_;simp[hop,Vv];exact hQ (by simp[Cr,As,Hm,Cx])
def Bmj(f a:El)(l:Ax)(c:Te)(hf:Hc 39 [As f] (.bool true))(ha:Hc 39 [As a] (.bool true))(hl:Hc 40 [.sl .none (l.map Ag)] (.bool true))(hc:Hc 41 [Ah c] (.bool true))(hop:f.s.op=6)(hlen:l.length=f.s.ks.length)
 (K1 K2:B6) (hk1:Hc 42 [.sl .none (f.ks.map Ak),.sl .none (a.ks.map Ak)] (.sl .none (K1.map Ak))) (hk2:Hc 42 [.sl .none (K1.map Ak),.sl .none (f.s.more.map Ak)] (.sl .none (K2.map Ak)))
 (wh x y:Sm) (Br:Hc 43 [An f.s,.int .i64 (a.ks.length:Int),.int .i64 0] (An wh)) (Us:wh.l=[x,y])
 (r:Sm) (b:Bool) (Iw:Hc 44 [An y,.int .i64 (f.s.more.length:Int),.sl .none (l.map Ag)] (Ex r b)) (hb:b=false):Hc 7 [As f,As a,.sl .none (l.map Ag),Ah c] (Cr (D7,6)):=by
 subst hb;have Vv:(l.length:Int)=(f.s.ks.length:Int):=Aa;refine Hg V8 fun Q hQ=>?_;simp[As,A7 f,A7 a,Ah,Aq c];refine Ca hf ?_;simp;refine Ca ha ?_;simp;refine Ca hl ?_;simp;refine Ca hc ?_;simp[hop,hlen];clear hf ha hl hc;refine Wd ?_;simp;refine Gr (fun _=>true) [] Bc Bc ?_;simp;refine Da hk1 ?_;simp;refine Da hk2 ?_;simp;refine⟨fun b cs _ hb=>by simpa using E4 (L:=[_]) hb,?_⟩;refine Ca Br ?_ (he:=by simp[An,Av f.s,hop]);simp[An,Av wh,Us,Av y];refine Ca Iw ?_;simp[Ex,An,Av r];exact hQ (by simp[Cr,As,Hm,Cx])
def Bmk(f a:El)(l:Ax)(c:Te)(hf:Hc 39 [As f] (.bool true))(ha:Hc 39 [As a] (.bool true))(hl:Hc 40 [.sl .none (l.map Ag)] (.bool true))(hc:Hc 41 [Ah c] (.bool true))(hop:f.s.op=6)(hlen:l.length=f.s.ks.length)
 (K1 K2:B6) (hk1:Hc 42 [.sl .none (f.ks.map Ak),.sl .none (a.ks.map Ak)] (.sl .none (K1.map Ak))) (hk2:Hc 42 [.sl .none (K1.map Ak),.sl .none (f.s.more.map Ak)] (.sl .none (K2.map Ak)))
 (wh x y:Sm) (Br:Hc 43 [An f.s,.int .i64 (a.ks.length:Int),.int .i64 0] (An wh)) (Us:wh.l=[x,y])
 (r:Sm) (b:Bool) (Iw:Hc 44 [An y,.int .i64 (f.s.more.length:Int),.sl .none (l.map Ag)] (Ex r b)) (hb:b=true) (hK:¬K2.length<=1000):Hc 7 [As f,As a,.sl .none (l.map Ag),Ah c] (Cr (D7,6)):=by
 subst hb;have Uf:¬(K2.length:Int)<=1000:=Aa;have hK3:(1000:Int)<(K2.length:Int):=Aa;have Vv:(l.length:Int)=(f.s.ks.length:Int):=Aa;refine Hg V8 fun Q hQ=>?_;simp[As,A7 f,A7 a,Ah,Aq c];refine Ca hf ?_;simp;refine Ca ha ?_;simp;refine Ca hl ?_;simp;refine Ca hc ?_;simp[hop,hlen];clear hf ha hl hc;refine Wd ?_;simp;refine Gr (fun _=>true) [] Bc Bc ?_;simp;refine Da hk1 ?_;simp;refine Da hk2 ?_;simp;refine⟨fun b cs _ hb=>by simpa using E4 (L:=[_]) hb,?_⟩;refine Ca Br ?_ (he:=by simp[An,Av f.s,hop]);simp[An,Av wh,Us,Av y];refine Ca Iw ?_;simp[Ex,An,Av r];simp[hK3];exact hQ (by simp[Cr,As,Hm,Cx])
inductive Zs (w:List Cn):List Cn->Option (List Cn)->Prop
 |nil:Zs w [] (some [])
 |bad (x:Cn) (l:List Cn) (u:Cn) (h:Hc 46 [Ad x,.sl .none (w.map Ag)] (Oo u false)):Zs w (x::l) none
 |good (x:Cn) (l:List Cn) (u:Cn) (z:Option (List Cn)) (h:Hc 46 [Ad x,.sl .none (w.map Ag)] (Oo u true)) (hz:Zs w l z):Zs w (x::l) (z.map (u :: ·))
def ki(ks:List Kd)(w:List Cn)(r:Sm)(ft at' u:Te)(cs:List Cn):El:=⟨ks,w,true,r,C5 5 0 [cs.foldl Gi ft,C5 5 0 [u,at']]⟩
open Classical in
noncomputable def Qs(e:El):El×Int:=if I9 e=true then(e,0)else(D7,6)
def Arm(e:El)(hc:Dd e.s):Hc 51 [As e] (Cr (Qs e)):=by
 have h:=Bmw e hc;unfold Qs;split
 . rename_i hr;rw[Ae hr]at h;exact h
 rename_i hr;rw[Ac hr]at h;exact h
noncomputable def puR(ks:List Kd)(w:List Cn)(r:Sm)(ft at' u:Te):Option (List Cn)->El×Int
 |none=>(D7,6)
 |some cs=>Qs (ki ks w r ft at' u cs)
def Bmt(f a:El)(l:Ax)(c:Te)(hf:Hc 39 [As f] (.bool true))(ha:Hc 39 [As a] (.bool true))(hl:Hc 40 [.sl .none (l.map Ag)] (.bool true))(hc:Hc 41 [Ah c] (.bool true))(hop:f.s.op=6)(hlen:l.length=f.s.ks.length)
 (K1 K2:B6) (hk1:Hc 42 [.sl .none (f.ks.map Ak),.sl .none (a.ks.map Ak)] (.sl .none (K1.map Ak))) (hk2:Hc 42 [.sl .none (K1.map Ak),.sl .none (f.s.more.map Ak)] (.sl .none (K2.map Ak)))
 (wh x y:Sm) (Br:Hc 43 [An f.s,.int .i64 (a.ks.length:Int),.int .i64 0] (An wh)) (Us:wh.l=[x,y])
 (r:Sm) (b:Bool) (Iw:Hc 44 [An y,.int .i64 (f.s.more.length:Int),.sl .none (l.map Ag)] (Ex r b)) (hb:b=true) (hK:K2.length<=1000) (Y4:f.pure=true) (hap:a.pure=true) (hn:f.s.n=1)
 (w:Ax) (hw:Hc 45 [.sl .none (f.w.map Ag),.sl .none (a.w.map Ag)] (.sl .none (w.map Ag))) (z:Option Ax) (hz:Zs w l z) (Dw:l.length<=1000)
 (u:Te) (A8:Hc 49 [Ah c,.sl .none (w.reverse.map Ag)] (Ah u)) (P6:Dd r):Hc 7 [As f,As a,.sl .none (l.map Ag),Ah c] (Cr (puR K2 w r f.t a.t u z)):=by
 subst hb;have Uf:(K2.length:Int)<=1000:=Aa;have hK3:¬(1000:Int)<(K2.length:Int):=Aa;have Sg:=Ayq w;generalize w.reverse=w' at A8 Sg;have Vv:(l.length:Int)=(f.s.ks.length:Int):=Aa;refine Hg V8 fun Q hQ=>?_;simp[As,A7 f,A7 a,Ah,Aq c];refine Ca hf ?_;simp;refine Ca ha ?_;simp;refine Ca hl ?_;simp;refine Ca hc ?_;simp[hop,hlen];clear hf ha hl hc;refine Wd ?_;simp;refine Gr (fun _=>true) [] Bc Bc ?_;simp;refine Da hk1 ?_;simp;refine Da hk2 ?_;simp;refine⟨fun b cs _ hb=>by simpa using E4 (L:=[_]) hb,?_⟩;refine Ca Br ?_ (he:=by simp[An,Av f.s,hop]);simp[An,Av wh,Us,Av y];refine Ca Iw ?_;simp[Ex,An,Av r];clear hk1 hk2 Br Iw;simp[hK3,Y4,hap,hn];refine Ca hw ?_;clear hw;simp;refine WL [] (fun n f h G=>∃(k:Nat) (tok:Dh) (done:Ax) (y:Option Ax),k+n=l.length/\f 18= .int .i64 k/\f 17= .sl tok (done.map Ag)/\done.length=k/\owns 7 G tok (done.map Ag) 6/\Zs w (l.drop k) y/\z=y.map (done++ ·)) (l.length) Ab ⟨0,.nilT,[],z,Ab,rfl,rfl,rfl,Fp _ _ _,by simpa using hz,by cases z<;>simp⟩ ?_;rintro n fs h G ⟨k,tok,done,y,hk,Ka,R5,R8,Bt,hy,Qd⟩ Q2 Aj;simp[Ka,R5];by_cases Af:k<l.length
 . have Cc:(k:Int)<(l.length:Int):=by omega
   have h0:(0:Int)<=(k:Int):=Aa;rw[Ct Af]at hy;simp[Af];refine Gr (fun _=>true) [] Bc Bc ?_;simp[Af,h0]
   cases hy with
   |bad _ _ u2 hcon=>
    obtain rfl:z=none:=by rw[Qd]; rfl
    refine Da hcon ?_;simp[Oo,Ad,Ap u2];refine⟨fun b cs _ hb=>by simpa using E4 (L:=[_]) hb,?_⟩;refine Aj (Lr ?_);simp
    exact hQ (by simp[puR,Cr,As,Hm,Cx])
   |good _ _ u2 z2 hcon hz2=>
    refine Da hcon ?_;simp[Oo,Ad,Ap u2];refine⟨fun b cs _ hb=>by simpa using E4 (L:=[_]) hb,?_⟩;refine Tw [_,_,_,_,_,_,_] (G++[_]) (by simp only[Gb,Gx]; rfl) (by simpa using Lv Bt) (by simp[A1]; omega) (Ea _ _ Iq) Ab fun tok' G' Bv Ei=>?_;simp[Au (n:=(k:Int)+1) Aa Aa];refine Aj (Ln h ?_);refine⟨k+1,tok',done++[u2],z2,Aa,Ab,by simp[Ap u2],by simp[R8],by simpa[Ap u2]using Bv,hz2,?_⟩;rw[Qd]; cases z2<;>simp
 have Cc:¬(k:Int)<(l.length:Int):=by omega
 rw[Cm Aa]at hy;cases hy;obtain rfl:z=some done:=by rw[Qd]; simp
 have hta:=Ayr f.t done;generalize hT1:done.foldl Gi f.t=T1 at hta;have m8:=wj u a.t;generalize hT2:C5 5 0 [u,a.t]=T2 at m8;have m9:=wj T1 T2;have hpo:ki K2 w r f.t a.t u done=⟨K2,w,true,r,C5 5 0 [T1,T2]⟩:=by rw[ki,hT1,hT2]
 have Md:=Arm (ki K2 w r f.t a.t u done) P6;have hpr:puR K2 w r f.t a.t u (some done)=Qs (ki K2 w r f.t a.t u done):=rfl;rw[hpr]at hQ;rw[hpo]at Md hQ;generalize hT3:C5 5 0 [T1,T2]=T3 at m9 Md hQ;generalize Qs ⟨K2,w,true,r,T3⟩=q at Md hQ;obtain⟨q1,q2⟩:=q;simp[Af];refine Aj (Lx ?_);clear Aj hpr hpo hT1 hT2 hT3 Qd Bt R5 Ka;simp;refine Wd ?_;simp;refine Da hta ?_;simp[Ah,Aq T1];refine Da Sg ?_;simp;refine Da A8 ?_;simp[Ah,Aq u];refine Da m8 ?_;simp[Ah,Aq T2];refine Da m9 ?_;simp[Ah,Aq T3];refine Ca Md ?_;simp[Cr,As,A7 q1];exact hQ (by simp[Cr,As,A7 q1])
set_option maxHeartbeats 8000000 in
def Bmm(f a:El)(l:Ax)(c:Te)(hf:Hc 39 [As f] (.bool true))(ha:Hc 39 [As a] (.bool true))(hl:Hc 40 [.sl .none (l.map Ag)] (.bool true))(hc:Hc 41 [Ah c] (.bool true))(hop:f.s.op=6)(hlen:l.length=f.s.ks.length)
 (K1 K2:B6) (hk1:Hc 42 [.sl .none (f.ks.map Ak),.sl .none (a.ks.map Ak)] (.sl .none (K1.map Ak))) (hk2:Hc 42 [.sl .none (K1.map Ak),.sl .none (f.s.more.map Ak)] (.sl .none (K2.map Ak)))
 (wh x y:Sm) (Br:Hc 43 [An f.s,.int .i64 (a.ks.length:Int),.int .i64 0] (An wh)) (Us:wh.l=[x,y])
 (r:Sm) (b:Bool) (Iw:Hc 44 [An y,.int .i64 (f.s.more.length:Int),.sl .none (l.map Ag)] (Ex r b)) (hb:b=true) (hK:K2.length<=1000) (be:f.pure=false\/(f.pure=true/\a.pure=false)\/(f.pure=true/\a.pure=true/\¬f.s.n=1))
 (x1 x2:El) (g1 g2:Int) (S5:Hc 52 [As f] (Cr (x1,g1))) (Q5:Hc 52 [As a] (Cr (x2,g2))) (Y5:g1=0\/g1=6) (Q4:g2=0\/g2=6)
 (v1 v2:Int) (H8:(if(1:Int)<(f.ks.length:Int)then(f.ks.length:Int)else 1)=v1) (Jl:(if(1:Int)<(a.ks.length:Int)then(a.ks.length:Int)else 1)=v2) (hv3:IntKind.i64.wrap (v1+v2)=v1+v2)
 (cs:Te) (B7:Hc 53 [Ah c,.int .i64 0,.int .i64 (v1+v2)] (Ah cs))
 (T V Z:Te) (hT:T=C5 5 0 [l.foldl Gi V,C5 5 0 [cs,Z]]) (hV:V=C5 1 v2 []) (hZ:Z=C5 1 0 [])
 (p0 p1:Te) (b0 b1:Bool) (Xp:Hc 54 [C8 K2 r,Ah Z] (Hv p0 b0)) (bi:Hc 54 [C8 K2 r,Ah T] (Hv p1 b1))
 (B0:Te) (ho0:Hc 55 [.int .i64 (f.s.more.length:Int),Ah T,Ah p0] (Ah B0))
 (s1:Te) (E7:Hc 53 [Ah x2.t,.int .i64 (f.ks.length:Int),.int .i64 v1] (Ah s1))
 (O1:Te->Te) (ni:∀B,Hc 55 [.int .i64 (a.ks.length:Int),Ah s1,Ah B] (Ah (O1 B)))
 (O2:Te->Te) (uf:∀B,Hc 55 [.int .i64 (f.ks.length:Int),Ah x1.t,Ah B] (Ah (O2 B))) (P6:Dd r):
 ∃q,Hc 7 [As f,As a,.sl .none (l.map Ag),Ah c] (Cr q)/\(q=(D7,6)\/∃t,q=Qs ⟨K2,[],false,r,t⟩):=by
 subst hb;have Uf:(K2.length:Int)<=1000:=Aa;have hK3:¬(1000:Int)<(K2.length:Int):=Aa;have Md:∀t,Hc 51 [As ⟨K2,[],false,r,t⟩] (Cr (Qs ⟨K2,[],false,r,t⟩)):=fun t=>Arm _ P6;have hta:=Ayr V l;generalize l.foldl Gi V=T1 at hT hta;have m8:=wj cs Z;generalize C5 5 0 [cs,Z]=T2 at hT m8;have m9:=wj T1 T2;rw[<- hT]at m9;have hVc:=d7 1 v2 [];rw[<- hV]at hVc;have hZc:=d7 1 0 [];rw[<- hZ]at hZc;clear hT hV hZ;obtain⟨Z0,hZ0⟩:∃q:El×Int,q=(D7,6):=⟨_,rfl⟩
 obtain⟨q,hq,hqq⟩:∃q:El×Int,q=(if g1=0/\g2=0 then(if f.s.n=0 then(if b0=true then Qs ⟨K2,[],false,r,O2 (O1 B0)⟩else Z0)else(if b1=true then Qs ⟨K2,[],false,r,O2 (O1 p1)⟩else Z0))else Z0)/\(q=(D7,6)\/∃t,q=Qs ⟨K2,[],false,r,t⟩):=by
  refine⟨_,rfl,?_⟩;subst hZ0;split
  . split
    . split
      . exact .inr ⟨_,rfl⟩
      exact .inl rfl
    split
    . exact .inr ⟨_,rfl⟩
    exact .inl rfl
  exact .inl rfl
 refine⟨q,?_,hqq⟩;clear hqq;have Vv:(l.length:Int)=(f.s.ks.length:Int):=Aa;refine Hg V8 fun Q hQ=>?_;simp[As,A7 f,A7 a,Ah,Aq c];refine Ca hf ?_;simp;refine Ca ha ?_;simp;refine Ca hl ?_;simp;refine Ca hc ?_;simp[hop,hlen];clear hf ha hl hc;refine Wd ?_;simp;refine Gr (fun _=>true) [] Bc Bc ?_;simp;refine Da hk1 ?_;simp;refine Da hk2 ?_;simp;refine⟨fun b cs _ hb=>by simpa using E4 (L:=[_]) hb,?_⟩;refine Ca Br ?_ (he:=by simp[An,Av f.s,hop]);simp[An,Av wh,Us,Av y];refine Ca Iw ?_;clear hk1 hk2 Br Iw;simp[-Az,Ex,An,Av r];rw[Az,Az];simp[-Az,hK3];rw[Az];simp[-Az];refine Gc (fun fs=>fs 9= .int .i64 0) (fun Q' hn hr=>?_) (fun fs hI=>?_)
 . clear hQ;refine Or.elim be (fun h1=>?_) (fun h1=>Or.elim h1 (fun h2=>?_) (fun h2=>?_))
   . rw[h1]at hn;simp[h1];refine hn _ Ab ?_;simp
   . obtain⟨h2,h3⟩:=h2;rw[h2,h3]at hn;simp[h2,h3];refine hn _ Ab ?_;simp
   obtain⟨h2,h3,h4⟩:=h2;rw[h2,h3]at hn;simp[h2,h3,h4];refine hn _ Ab ?_;simp
 simp[-Az,hI];rw[Az];simp[-Az];refine Ca S5 ?_ (he:=by simp[As,A7 f,hop]);simp[-Az,Cr,As,A7 x1];rw[Az];simp[-Az];refine Ca Q5 ?_;simp[-Az,Cr,As,A7 x2];rw[Az,Az];refine Or.elim Y5 (fun h1=>?_) (fun h1=>?_)
 case refine_2=>
  rw[Ac Aa]at hq;rw[hq,hZ0]at hQ;simp[h1];exact hQ (by simp[Cr,As,Hm,Cx])
 refine Or.elim Q4 (fun h2=>?_) (fun h2=>?_)
 case refine_2=>
  rw[Ac Aa]at hq;rw[hq,hZ0]at hQ;simp[h1,h2];exact hQ (by simp[Cr,As,Hm,Cx])
 rw[Ae ⟨h1,h2⟩]at hq;simp[-Az,h1,h2];rw[Az];simp[-Az,cn,Xw,H8,Jl];rw[Az];refine Wd ?_;simp[-Az];refine Da hta ?_ (he:=by simp[Ah,hVc]);simp[-Az,Ah,Aq T1,hv3];refine Da B7 ?_;simp[-Az,Ah,Aq cs];refine Da m8 ?_ (he:=by simp[Ah,Aq cs,hZc]);simp[-Az,Ah,Aq T2];refine Da m9 ?_;simp[-Az,Ah,Aq T];rw[Az,Az];refine Or.elim (Rn (f.s.n=0)) (fun h3=>?_) (fun h3=>?_)
 case refine_1=>
  rw[Ae h3]at hq;simp[h3];refine Ca Xp ?_ (he:=by simp[C8,Av r,Ah,hZc]);refine Or.elim (A24 b0) (fun h4=>?_) (fun h4=>?_)
  case refine_2=>
   rw[Ac (by rw[h4]; simp)]at hq;rw[hq,hZ0]at hQ;simp[Hv,Ah,Aq p0,h4];exact hQ (by simp[Cr,As,Hm,Cx])
  rw[Ae h4]at hq;simp[Hv,Ah,Aq p0,h4];refine Ca ho0 ?_;simp[Ah,Aq B0];refine Wd ?_;simp;refine Da E7 ?_;simp[Ah,Aq s1];refine Da (ni B0) ?_;simp[Ah,Aq (O1 B0)];refine Da (uf (O1 B0)) ?_;simp[Ah,Aq (O2 (O1 B0))];refine Ca (Md (O2 (O1 B0))) ?_;rw[<- hq];simp[Cr,As,A7 q.1];exact hQ (by simp[Cr,As,A7 q.1])
 case refine_2=>
  rw[Ac h3]at hq;simp[h3];refine Ca bi ?_;refine Or.elim (A24 b1) (fun h4=>?_) (fun h4=>?_)
  case refine_2=>
   rw[Ac (by rw[h4]; simp)]at hq;rw[hq,hZ0]at hQ;simp[Hv,Ah,Aq p1,h4];exact hQ (by simp[Cr,As,Hm,Cx])
  rw[Ae h4]at hq;simp[Hv,Ah,Aq p1,h4];refine Wd ?_;simp;refine Da E7 ?_;simp[Ah,Aq s1];refine Da (ni p1) ?_;simp[Ah,Aq (O1 p1)];refine Da (uf (O1 p1)) ?_;simp[Ah,Aq (O2 (O1 p1))];refine Ca (Md (O2 (O1 p1))) ?_;rw[<- hq];simp[Cr,As,A7 q.1];exact hQ (by simp[Cr,As,A7 q.1])
end
section
attribute [local simp] Cb Cq
def A2z{c:Cn}(h:Gd c A3=true):Bo c<=1000:=by
 rw[md]at h;simp only[Bb]at h;have h2:=h.2
 cases c with
 |mk o n s k ns l=>
  cases l with
  |nil=>simp[Bo,Cz]
  |cons x l=>simp[A3,Cs,Cn.l]at h2
def A1k:∀(h:Nat) (t:Te),Ds h t->teD h t
 |0,_,h=>h.elim
 |h+1,t,ht=>by
  obtain⟨h1,h2⟩:=ht;refine⟨?_,?_,fun x hx=>A1k h x (h2 x hx)⟩
  . by_cases ho:Dj t.op=true
    . have:=(Gz ((ct h1).1 ho)).2.1;omega
    exact A2z (Av5 h1 ho)
  by_cases ho:t.op=8
  . have:=(Gz ((ct h1).2.1 ho)).2.1;omega
  exact A2z (Av6 h1 ho)
def X3{e:El}(h:I9 e=true):e.ks.length<=1000/\Cu e.s=true/\U6 e.t=true/\(∀ x∈e.w,Ar x=true)/\(e.pure=true->e.w.length=e.ks.length)/\(e.pure=false->e.w=[]):=by
 unfold I9 at h;simp only[Bb]at h;obtain⟨⟨⟨⟨h1,h2⟩,h3⟩,h4⟩,h5⟩:=h;unfold J2 at h1;simp only[Bb,Aw]at h1;unfold On at h5;refine⟨h1.1,h2,h3,fun x hx=>List.all_eq_true.1 h4 x hx,fun hp=>?_,fun hp=>?_⟩
 . rw[Ae hp]at h5;simpa using h5
 rw[Ac (by simp[hp])]at h5;simpa using h5
def Nn(f a:El):List Kd:=f.ks++a.ks++f.s.more
def G5(f a:El):List Cn:=f.w++a.w
def Lf(f a:El):Bool:=f.pure&&(a.pure&&decide (f.s.n=1))
noncomputable def I3(f a:El)(l:List Cn)(c:Te):Bool:=I9 f&&(I9 a&&(l.all Ar&&U6 c))
def rsh(d:Int)(s:Sm)(fr:Int):Sm:=Gg (fun c k=>Dm c d k) s fr
inductive Tn (f a:El) (l:List Cn) (c:Te):El×Int->Prop
 |arg (h:I3 f a l c=false):Tn f a l c (D7,1)
 |typ (h:I3 f a l c=true) (h1:¬f.s.op=6):Tn f a l c (D7,12)
 |len (h:I3 f a l c=true) (h1:f.s.op=6) (h2:¬l.length=f.s.ks.length):Tn f a l c (D7,1)
 |big (h:I3 f a l c=true) (h1:f.s.op=6) (h2:l.length=f.s.ks.length):Tn f a l c (D7,6)
 |good (h:I3 f a l c=true) (h1:f.s.op=6) (h2:l.length=f.s.ks.length) (x y r:Sm) (t:Te) (hy:(rsh a.ks.length f.s 0).l=[x,y])
  (hf:Cu (Th f.s.more.length l y)=true) (hn:NS (Th f.s.more.length l y) r) (hr:Cu r=true) (hk:(Nn f a).length<=1000)
  (hp:Lf f a=true->∀x∈l,Ar (Do (G5 f a).reverse x 0)=true/\∃q m,Fu [Do (G5 f a).reverse x 0] 10000 [q] m)
  (ho:I9 ⟨Nn f a,if Lf f a=true then G5 f a else [],Lf f a,r,t⟩=true):
  Tn f a l c (⟨Nn f a,if Lf f a=true then G5 f a else [],Lf f a,r,t⟩,0)
def Agw{w:List Cn}(P:Cn->Prop):∀(l:List Cn),(∀ x∈l,∃u b,Hc 46 [Ad x,.sl .none (w.map Ag)] (Oo u b)/\(b=true->P x))->∃z,Zs w l z/\(∀ cs,z=some cs->∀x∈l,P x)
 | [],_=>⟨_,.nil,Ab⟩
 |x::l,h=>by
  obtain⟨u,b,h1,h2⟩:=h x Ab;cases b
  . exact⟨none,.bad x l u h1,Ab⟩
  obtain⟨z,hz,hp⟩:=Agw P l (fun y hy=>h y (by simp[hy]));refine⟨_,.good x l u z h1 hz,fun cs B7 y hy=>?_⟩
  cases z with
  |none=>cases B7
  |some ds=>
   rcases List.mem_cons.1 hy with rfl|hy
   . exact h2 rfl
   exact hp ds rfl y hy
def Arh(e:El):(Qs e=(e,0)/\I9 e=true)\/Qs e=(D7,6):=by
 unfold Qs;split
 . rename_i h;exact .inl ⟨rfl,h⟩
 exact .inr rfl
def vm(n:Nat)(h:n<=1000):∃v:Int,(if(1:Int)<(n:Int)then(n:Int)else 1)=v/\1<=v/\v<=1000:=by
 refine⟨_,rfl,?_⟩;split<;>omega
def Bml(f a:El)(l:Ax)(c:Te)(hcf:Dd f.s)(Uh:Dd a.s)(Dw:l.length<=1000):
 ∃q,Hc 7 [As f,As a,.sl .none (l.map Ag),Ah c] (Cr q)/\Tn f a l c q:=by
 have hf:=kh f hcf;have ha:=kh a Uh;have hl:=Axu l;have hc:=Ax7 c;cases e1:I9 f
 . rw[e1]at hf;exact⟨_,Bmn f a l c hf,.arg (by simp[I3,e1])⟩
 cases e2:I9 a
 . rw[e1]at hf;rw[e2]at ha;exact⟨_,Bmo f a l c hf ha,.arg (by simp[I3,e2])⟩
 cases e3:l.all Ar
 . rw[e1]at hf;rw[e2]at ha;rw[e3]at hl;exact⟨_,Bmp f a l c hf ha hl,.arg (by rw[I3,e3]; simp)⟩
 cases e4:U6 c
 . rw[e1]at hf;rw[e2]at ha;rw[e3]at hl;rw[e4]at hc;exact⟨_,Bmq f a l c hf ha hl hc,.arg (by rw[I3,e4]; simp)⟩
 rw[e1]at hf;rw[e2]at ha;rw[e3]at hl;rw[e4]at hc;have hC:I3 f a l c=true:=by rw[I3,e1,e2,e3,e4]; rfl
 by_cases hop:f.s.op=6
 case neg=>exact⟨_,Bmr f a l c hf ha hl hc hop,.typ hC hop⟩
 by_cases hlen:l.length=f.s.ks.length
 case neg=>exact⟨_,Bms f a l c hf ha hl hc hop hlen,.len hC hop hlen⟩
 obtain⟨f1,f2,f3,f4,f5,f6⟩:=X3 e1;obtain⟨a1,a2,a3,a4,a5,a6⟩:=X3 e2;have Qa:∀x∈l,Ar x=true:=fun x hx=>List.all_eq_true.1 e3 x hx;have tf:=Uc f2;have nf:=((X9 f.s).1 (Vr f2)).1;have Aub:=(n6 nf).2;have Vx:=(U2 nf).2.2.1 hop;have hZ:=Af0 400 f.s tf;have Yy:=Ayo f.ks a.ks Aa;have Uf:=Ayo (f.ks++a.ks) f.s.more (by simp;omega);have Br:=Aem (a.ks.length:Int) 0 400 f.s (ow Aa _ _ hZ) Aa;have hwZ:=wy (B:=20000) (D:=400) (Bm _) (Bm _) (fun c k=>Dm c (a.ks.length:Int) k) (fun c k h1 h2=>by have:=kj (a.ks.length:Int) c k;omega) 400 f.s 0 hZ;have Us:(Gg (fun c k=>Dm c (a.ks.length:Int) k) f.s 0).l.length=2:=by rw[(wz _ _ _).2.2.2.2,kp]; exact Vx
 obtain⟨x,y,H9⟩:∃x y,(Gg (fun c k=>Dm c (a.ks.length:Int) k) f.s 0).l=[x,y]:=by
  generalize (Gg (fun c k=>Dm c (a.ks.length:Int) k) f.s 0).l=L at Us
  match L,Us with
  | [x,y],_=>exact⟨x,y,rfl⟩
 have hyZ:Zm 20000 400 399 y:=hwZ.2.2.2.2 y (by rw[H9]; simp);obtain⟨r,b,Iw,M9⟩:=Bmu 399 y hyZ Aa f.s.more.length Aub l Dw (fun x hx=>by have:=Gz (Qa x hx); exact⟨this.1,this.2.1⟩);have h2:∀q,Hc 7 [As f,As a,.sl .none (l.map Ag),Ah c] (Cr q)->q=(D7,6)->∃q,Hc 7 [As f,As a,.sl .none (l.map Ag),Ah c] (Cr q)/\Tn f a l c q:=fun q h e=>⟨q,h,by rw[e]; exact .big hC hop hlen⟩;cases hb:b
 . exact h2 _ (Bmj f a l c hf ha hl hc hop hlen _ _ Yy Uf _ x y Br H9 r b Iw hb) rfl
 by_cases hk:(f.ks++a.ks++f.s.more).length<=1000
 case neg=>exact h2 _ (Bmk f a l c hf ha hl hc hop hlen _ _ Yy Uf _ x y Br H9 r b Iw hb hk) rfl
 obtain⟨u1,u2,u3⟩:=M9 hb;have P6:Dd r:=ib u3;cases hap:Lf f a
 case true=>
  have Xj:=hap;simp only[Lf,Bb,Aw]at Xj;obtain⟨p1,p2,p3⟩:=Xj;have hlw:(G5 f a).length<=2000:=by rw[G5,Po,f5 p1,a5 p2]; omega
  have hcons:=Bmy f.w a.w (by rw[G5,Po]at hlw;omega)
  obtain⟨z,hz,hzp⟩:=Agw (w:=G5 f a) (fun x=>Ar (Do (G5 f a).reverse x 0)=true/\∃q m,Fu [Do (G5 f a).reverse x 0] 10000 [q] m) l fun x hx=>by
   obtain⟨q,b,g1,g2⟩:=Bmx x (G5 f a) (by have:=(Gz (Qa x hx)).2.1;omega);exact⟨q,b,g1,fun h=>⟨(g2 h).1,q,(g2 h).2⟩⟩
  obtain⟨u,hu⟩:=Blt (G5 f a).reverse c 400 (A1k 400 c ((oh c).1 e4).1) Aa;have hA:=Bmt f a l c hf ha hl hc hop hlen _ _ Yy Uf _ x y Br H9 r b Iw hb hk p1 p2 p3 (G5 f a) hcons z hz Dw u hu P6
  cases z with
  |none=>exact h2 _ hA rfl
  |some cs=>
   rcases Arh (ki (f.ks++a.ks++f.s.more) (G5 f a) r f.t a.t u cs)with⟨e,ho⟩|e
   . refine⟨_,hA,?_⟩;show Tn f a l c (Qs _);rw[e];have:=Tn.good (c:=c) hC hop hlen x y r (C5 5 0 [cs.foldl Gi f.t,C5 5 0 [u,a.t]]) H9 u1 u2 u3 hk (fun _=>hzp cs rfl);rw[hap]at this;exact this ho
   exact h2 _ hA e
 case false=>
  have be:f.pure=false\/(f.pure=true/\a.pure=false)\/(f.pure=true/\a.pure=true/\¬f.s.n=1):=by
   unfold Lf at hap;cases h1:f.pure
   . exact .inl rfl
   cases h2:a.pure
   . exact .inr (.inl ⟨rfl,rfl⟩)
   exact .inr (.inr ⟨rfl,rfl,by rw[h1,h2]at hap;simpa using hap⟩)
  obtain⟨x1,g1,S5,Y5⟩:=Aym f hcf e1 (pm _ (Vr f2));obtain⟨x2,g2,Q5,Q4⟩:=Aym a Uh e2 (pm _ (Vr a2));obtain⟨v1,H8,hv1a,hv1b⟩:=vm f.ks.length f1;obtain⟨v2,Jl,hv2a,hv2b⟩:=vm a.ks.length a1;obtain⟨cs,B7⟩:=Ax3 c 0 (v1+v2);obtain⟨s1,Ik⟩:=Ax3 x2.t f.ks.length v1;obtain⟨T,hT⟩:∃T,T=C5 5 0 [l.foldl Gi (C5 1 v2 []),C5 5 0 [cs,C5 1 0 []]]:=⟨_,rfl⟩;have tr:=ow Aa _ _ (Af0 400 r (Uc u3));obtain⟨p0,b0,Xp⟩:=Ayp (f.ks++a.ks++f.s.more) r 400 tr (pm _ (Vr u3)) Aa (C5 1 0 []);obtain⟨p1,b1,bi⟩:=Ayp (f.ks++a.ks++f.s.more) r 400 tr (pm _ (Vr u3)) Aa T;obtain⟨B0,ho0⟩:=Aeo f.s.more.length T p0 Aa Aa;have Iv:=fun B=>(Aeo a.ks.length s1 B Aa Aa).choose_spec;have P9:=fun B=>(Aeo f.ks.length x1.t B Aa Aa).choose_spec;obtain⟨q,hA,hq⟩:=Bmm f a l c hf ha hl hc hop hlen _ _ Yy Uf _ x y Br H9 r b Iw hb hk be x1 x2 g1 g2 S5 Q5 Y5 Q4 v1 v2 H8 Jl (Au Aa Aa) cs B7 T _ _ hT rfl rfl p0 p1 b0 b1 Xp bi B0 ho0 s1 Ik _ Iv _ P9 P6;rcases hq with rfl|⟨t,rfl⟩
  . exact h2 _ hA rfl
  rcases Arh ⟨f.ks++a.ks++f.s.more,[],false,r,t⟩with⟨e,ho⟩|e
  . refine⟨_,hA,?_⟩;rw[e];have:=Tn.good (c:=c) hC hop hlen x y r t H9 u1 u2 u3 hk (fun h=>by rw[hap]at h;cases h);rw[hap]at this;exact this ho
  exact h2 _ hA e
end
def lh:Prop:=Hc 4 [] (.bool true)
