/- Lemmas for the law: E74 E75 E76 -/
import Derived.Test.YtcgjmdpcplhanaaGreatZi20
namespace Go.Proofs.YtcgjmdpcplhanaaGreat
section
open Go.RowKit
namespace DW
theorem JN{a b:Nat}(h:a<=b):2^a<=2^b:=cv aa h
theorem Fk{f:Nat->Nat->Int}{e:Nat}(h:∀i,(f i i).natAbs<=2^e):∀k,(Mx.dpr f k).natAbs<=2^(e*k)
 |0=>by simp[Mx.dpr]
 |k+1=>by
  show(Mx.dpr f k*f k k).natAbs<=_;exact mS (Fk h k) (h k) (by rw[Nat.mul_succ];exact af _)
theorem um{k z1 z2:Int}(h2:1<=z2)(h:z1=k*z2):z1/(Int.gcd z1 z2:Int)=k/\z2/(Int.gcd z1 z2:Int)=1:=by
 have e:(Int.gcd z1 z2:Int)=z2:=by
  unfold Int.gcd;rw[h,eQ,Nat.gcd_eq_right (Nat.dvd_mul_left _ _)];omega
 rw[e,h];exact⟨Int.mul_ediv_cancel _ aa,Int.ediv_self aa⟩
theorem zZ(N D:Int):∃a b c,frD N D= .tp [dF a b,zI c]/\(c=0/\a=N/\b=D\/c=8):=by
 unfold frD;split
 ·exact⟨_,_,_,rfl,.inl ⟨rfl,rfl,rfl⟩⟩
 ·exact⟨_,_,_,rfl,.inr rfl⟩
structure eZ(n:Nat)(ma:Mx.Mat)(ea:Int)(mb:Mx.Mat)(eb:Int):Prop where
 ca:lck n ma ea=0
 cb:lck n mb eb=0
 n5:n<=5
 fa:(nR n ma ea).length=n
 fb:(nR n mb eb).length=n
def ixN(n:Nat)(ma:Mx.Mat)(ea:Int)(mb:Mx.Mat)(eb:Int):Int:=Mx.dpr (Mx.at' (nR n mb eb)) n*Mx.dpr (fun _ _=>ea/nG n ma ea) n
def ixM(n:Nat)(ma:Mx.Mat)(ea:Int)(mb:Mx.Mat)(eb:Int):Int:=Mx.dpr (Mx.at' (nR n ma ea)) n*Mx.dpr (fun _ _=>eb/nG n mb eb) n
def ixD(n:Nat)(ma:Mx.Mat)(ea:Int)(mb:Mx.Mat)(eb:Int):DW.D:=frD (ixN n ma ea mb eb/(Int.gcd (ixN n ma ea mb eb) (ixM n ma ea mb eb):Int)) (ixM n ma ea mb eb/(Int.gcd (ixN n ma ea mb eb) (ixM n ma ea mb eb):Int))
theorem cC{n:Nat}{m:Mx.Mat}{e:Int}(h:lck n m e=0):nH n (nR n m e)=nR n m e/\Mx.Rc n (nR n m e)/\0<e/nG n m e/\0<n/\n<=6:=by
 obtain⟨k1,_,_⟩:=iQ h;obtain⟨a1,a2,a3,a4,a5,a6⟩:=Mx.eE (jn h) (show 0<e by omega);exact⟨a1,a4,a6,by omega,by omega⟩
theorem wq{n:Nat}{m:Mx.Mat}{e:Int}(h:lck n m e=0)(hf:(nR n m e).length=n):Mx.D n (Mx.at' (nR n m e))=Mx.dpr (Mx.at' (nR n m e)) n/\1<=Mx.dpr (Mx.at' (nR n m e)) n:=by
 obtain⟨a1,a2,a3,a4,a5⟩:=cC h;obtain⟨b1,b2⟩:=Mx.nT a2 hf a1;rw[b1]at b2;exact⟨b1,b2⟩
theorem sd{n:Nat}{m:Mx.Mat}{e:Int}(h:lck n m e=0)(hn:n<=5)(k:Nat)(hk:k<=n):(Mx.dpr (Mx.at' (nR n m e)) k).natAbs<=2^2600:=
 aA (Fk (e:=520) (fun i=>jO (iA h hn) i i) k) (JN (a:=520*k) (b:=2600) aa)
theorem sE{n:Nat}{m:Mx.Mat}{e:Int}(h:lck n m e=0)(hn:n<=5)(k:Nat)(hk:k<=n):(Mx.dpr (fun _ _=>e/nG n m e) k).natAbs<=2^250:=
 aA (Fk (e:=50) (fun _=>fD h) k) (JN (a:=50*k) (b:=250) aa)
section
variable {n : Nat} {ma mb : Mx.Mat} {ea eb : Int} (h : eZ n ma ea mb eb)
include h
theorem eZ.nb:(ixN n ma ea mb eb).natAbs<=2^2850:=mS (a:=2600) (b:=250) (c:=2850) (sd h.cb h.n5 n (af _)) (sE h.ca h.n5 n (af _)) aq
theorem eZ.mb':(ixM n ma ea mb eb).natAbs<=2^2850:=mS (a:=2600) (b:=250) (c:=2850) (sd h.ca h.n5 n (af _)) (sE h.cb h.n5 n (af _)) aq
theorem eZ.np:1<=ixN n ma ea mb eb:=by
 have h1:=(wq h.cb h.fb).2;have h2:=Mx.my (show 1<=ea/nG n ma ea by have:=(cC h.ca).2.2.1;omega) n;have:=ig h1 h2 aa aa;unfold ixN;omega
theorem eZ.mp:1<=ixM n ma ea mb eb:=by
 have h1:=(wq h.ca h.fa).2;have h2:=Mx.my (show 1<=eb/nG n mb eb by have:=(cC h.cb).2.2.1;omega) n;have:=ig h1 h2 aa aa;unfold ixM;omega
theorem eZ.gp:(0:Int)<(Int.gcd (ixN n ma ea mb eb) (ixM n ma ea mb eb):Int):=by
 have h1:=h.mp;have:Int.gcd (ixN n ma ea mb eb) (ixM n ma ea mb eb)≠0:=fun e=>by
  have:=(Int.gcd_eq_zero_iff.1 e).2;omega
 omega
theorem eZ.qn:0<=ixN n ma ea mb eb/(Int.gcd (ixN n ma ea mb eb) (ixM n ma ea mb eb):Int)/\(ixN n ma ea mb eb/(Int.gcd (ixN n ma ea mb eb) (ixM n ma ea mb eb):Int)).natAbs<=2^2850:=
 ⟨Int.ediv_nonneg (by have:=h.np;omega) (by have:=h.gp;omega),aA (oN h.gp (Int.gcd_dvd_left ..)) h.nb⟩
theorem eZ.qm:0<=ixM n ma ea mb eb/(Int.gcd (ixN n ma ea mb eb) (ixM n ma ea mb eb):Int)/\(ixM n ma ea mb eb/(Int.gcd (ixN n ma ea mb eb) (ixM n ma ea mb eb):Int)).natAbs<=2^2850:=
 ⟨Int.ediv_nonneg (by have:=h.mp;omega) (by have:=h.gp;omega),aA (oN h.gp (Int.gcd_dvd_right ..)) h.mb'⟩
theorem eZ.gb:(Int.gcd (ixN n ma ea mb eb) (ixM n ma ea mb eb):Int).natAbs<=2^2850:=by
 have h1:=h.np;have h2:Int.gcd (ixN n ma ea mb eb) (ixM n ma ea mb eb)<=(ixN n ma ea mb eb).natAbs:=Nat.le_of_dvd aa (Nat.gcd_dvd_left ..);have h3:=h.nb;rw[ed];exact aA h2 h3
end
theorem tck_0{n:Nat}{ma mb:Mx.Mat}{ea eb:Int}(ha:lck n ma ea=0)(hb:lck n mb eb=0):tck n ma ea n mb eb=0:=by
 unfold tck;rw[ai (fun h=>h ha),ai (fun h=>h hb),an rfl]
theorem pchk{n:Nat}{m:Mx.Mat}{e:Int}(h:lck n m e=0):Fn Tryz.prog 33 [dL n m e] (zI (lck n m e)):=by
 obtain⟨k1,k2,k3⟩:=iQ h;exact xN n e m (by unfold I64;omega) (by unfold I64;omega) aa (fun r hr=>by have:=jn h r hr;omega)
theorem pread{n:Nat}{m:Mx.Mat}{e:Int}(h:lck n m e=0):Fn Tryz.prog 87 [dL n m e] (ez n (nR n m e) (e/nG n m e)):=by
 obtain⟨k1,k2,k3⟩:=iQ h;exact TC n e m n (by unfold I64;omega) aa aa aa (jn h) (zP h) (LY h)
theorem CE{n:Nat}{ma mb:Mx.Mat}{ea eb:Int}(ha:lck n ma ea=0)(hb:lck n mb eb=0):Fn Tryz.prog 134 [dL n ma ea,dL n mb eb] (zI 0):=by
 have:=Ll n ea n eb ma mb (pchk ha) (pchk hb);rwa[tck_0 ha hb]at this
theorem eZ.pd{n:Nat}{ma mb:Mx.Mat}{ea eb:Int}(h:eZ n ma ea mb eb):Fn Tryz.prog 64 [dL n ma ea,dL n mb eb] (ixD n ma ea mb eb):=by
 have TW:=CE h.ca h.cb;have RA:=pread h.ca;have RB:=pread h.cb;have h5:=h.n5;have FA:=wD n (ea/nG n ma ea) (nR n ma ea);have FB:=wD n (eb/nG n mb eb) (nR n mb eb);rw[h.fa,aB rfl]at FA;rw[h.fb,aB rfl]at FB;have V1:=Du n (ea/nG n ma ea) (nR n ma ea) n (by rw[h.fa];exact af _) aa (cC h.ca).2.1 (fun k hk=>bj (sd h.ca h5 k (by rw[h.fa]at hk;exact hk)) aa) (fun i j=>bj (jO (iA h.ca h5) i j) aa);have V2:=Du n (eb/nG n mb eb) (nR n mb eb) n (by rw[h.fb];exact af _) aa (cC h.cb).2.1 (fun k hk=>bj (sd h.cb h5 k (by rw[h.fb]at hk;exact hk)) aa) (fun i j=>bj (jO (iA h.cb h5) i j) aa);rw[h.fa]at V1;rw[h.fb]at V2;have W1:=GS (ea/nG n ma ea) n aa (bj (fD h.ca) aa) (fun k hk=>bj (sE h.ca h5 k hk) aa);have W2:=GS (eb/nG n mb eb) n aa (bj (fD h.cb) aa) (fun k hk=>bj (sE h.cb h5 k hk) aa);have M1:=sM _ _ (bj (sd h.cb h5 n (af _)) aa) (bj (sE h.ca h5 n (af _)) aa);have M2:=sM _ _ (bj (sd h.ca h5 n (af _)) aa) (bj (sE h.cb h5 n (af _)) aa);have GC:=T4 _ _ (bj h.nb aa) (bj h.mb' aa);have QN:=KF _ _ (bj h.nb aa) (bj h.gb aa);have QD:=KF _ _ (bj h.mb' aa) (bj h.gb aa);have SN:=xP _ (bj h.qn.2 aa);have SD:=xP _ (bj h.qm.2 aa);have FR:=Gh _ _ _ _ _ h.qn.1 h.qm.1 GC QN QD SN SD;obtain⟨a,b,c,e,_⟩:=zZ (ixN n ma ea mb eb/(Int.gcd (ixN n ma ea mb eb) (ixM n ma ea mb eb):Int)) (ixM n ma ea mb eb/(Int.gcd (ixN n ma ea mb eb) (ixM n ma ea mb eb):Int));unfold ixD;rw[e]at FR⊢;exact N6 n ea n eb _ _ _ _ _ _ _ _ a b c ma mb _ _ TW RA RB FA FB V2 W1 M1 V1 W2 M2 FR
theorem rcom{n:Nat}{ma mb:Mx.Mat}{ea eb:Int}(ca:lck n ma ea=0)(cb:lck n mb eb=0)(h5:n<=5):Fn Tryz.prog 138 [dL n ma ea,dL n mb eb] (.tp [dW (mapM (fun x=>x*(eb/nG n mb eb)) (nR n ma ea)),dW (mapM (fun x=>x*(ea/nG n ma ea)) (nR n mb eb)),.nm (ea/nG n ma ea*(eb/nG n mb eb))]):=by
 have la:=LC ca;have lb:=LC cb;have ra:=(cC ca).2.1;have rb:=(cC cb).2.1;exact Lf n ea n eb _ _ _ ma mb _ _ _ _ (BN ca h5) (BN cb h5)
  (Ec _ _ aa (fun l hl=>by have:=ra l hl;omega) (bQ (fD cb) aa) (fun l hl x hx=>bQ (iA ca h5 l hl x hx) aa))
  (Ec _ _ aa (fun l hl=>by have:=rb l hl;omega) (bQ (fD ca) aa) (fun l hl x hx=>bQ (iA cb h5 l hl x hx) aa))
  (CG _ _ (bQ (fD ca) aa) (bQ (fD cb) aa))
theorem scd{n:Nat}{R:Mx.Mat}{z:Int}(hb:∀l∈R,∀x∈l,x.natAbs<=2^520)(hz:z.natAbs<=2^50):Mx.Bd (2^570) (mapM (fun x=>x*z) R)/\Mx.D n (Mx.at' (mapM (fun x=>x*z) R))=Mx.dpr (fun _ _=>z) n*Mx.D n (Mx.at' R):=by
 refine⟨fun i j=>?_,?_⟩
 ·rw[jo (fun x=>x*z) (lE _)];exact mS (a:=520) (b:=50) (c:=570) (jO hb i j) hz aq
 ·rw[<-Mx.sX];exact Mx.bJ n _ _ fun i j _ _=>by rw[jo (fun x=>x*z) (lE _),dJ]
theorem eZ.rd{n:Nat}{ma mb:Mx.Mat}{ea eb:Int}(h:eZ n ma ea mb eb):Fn Tryz.prog 66 [dL n ma ea,dL n mb eb] (ixD n ma ea mb eb):=by
 have CO:=rcom h.ca h.cb h.n5;have h5:=h.n5;obtain⟨p1,p2⟩:=scd (n:=n) (iA h.ca h5) (fD h.cb);obtain⟨q1,q2⟩:=scd (n:=n) (iA h.cb h5) (fD h.ca);have he:(570+n)*n<=575*5:=cn aa h5;have DP:=Kh 570 n _ (by rw[cB];exact h.fa) (sJ (cC h.ca).2.1) p1 aa aa;have DQ:=Kh 570 n _ (by rw[cB];exact h.fb) (sJ (cC h.cb).2.1) q1 aa aa;rw[p2,(wq h.ca h.fa).1,dJ]at DP;rw[q2,(wq h.cb h.fb).1,dJ]at DQ;have SP:=zo (ixM n ma ea mb eb) (bQ h.mb' aa);have SQ:=zo (ixN n ma ea mb eb) (bQ h.nb aa);rw[show((ixM n ma ea mb eb).natAbs:Int)=ixM n ma ea mb eb by have:=h.mp;omega]at SP;rw[show((ixN n ma ea mb eb).natAbs:Int)=ixN n ma ea mb eb by have:=h.np;omega]at SQ;have GC:=Qv _ _ (bQ h.nb aa) (bQ h.mb' aa);have QN:=CD _ _ (bQ h.nb aa) (bQ h.gb aa) (by have:=h.gp;omega);have QD:=CD _ _ (bQ h.mb' aa) (bQ h.gb aa) (by have:=h.gp;omega);have FR:=Ge _ _ _ _ _ GC QN QD (sO h.qn.2 aa) (sO h.qm.2 aa);obtain⟨a,b,c,e,_⟩:=zZ (ixN n ma ea mb eb/(Int.gcd (ixN n ma ea mb eb) (ixM n ma ea mb eb):Int)) (ixM n ma ea mb eb/(Int.gcd (ixN n ma ea mb eb) (ixM n ma ea mb eb):Int));unfold ixD;rw[e]at FR⊢;exact NY n ea n eb _ _ _ _ _ a b c ma mb _ _ CO (by rw[cB,h.fa];omega) (by rw[cB,h.fb];omega) DQ SQ DP SP FR
theorem ix_n{n:Nat}{ma mb:Mx.Mat}{ea eb:Int}(ca:lck n ma ea=0)(cb:lck n mb eb=0)(h5:n<=5)(hf:¬((nR n ma ea).length=n/\(nR n mb eb).length=n)):
  Fn Tryz.prog 64 [dL n ma ea,dL n mb eb] (.tp [dF 0 0,zI 12])/\Fn Tryz.prog 66 [dL n ma ea,dL n mb eb] (.tp [dF 0 0,zI 12]):=by
 have la:=Mx.JV (jn ca) ea;have lb:=Mx.JV (jn cb) eb;refine⟨N7 n ea n eb _ _ ma mb _ _ _ _ ?_ (CE ca cb) (pread ca) (pread cb) (wD ..) (wD ..),N0 n ea n eb _ ma mb _ _ (rcom ca cb h5) ?_⟩
 ·by_cases h1:(nR n ma ea).length=n
  ·rw[aF (p:=((nR n mb eb).length:Int)=n) (fun e=>hf ⟨h1,by omega⟩),Bool.and_false]
  ·rw[aF (p:=((nR n ma ea).length:Int)=n) (fun e=>h1 aa),yO]
 ·rw[cB,cB];omega
end DW
end
section
open Go.RowKit
namespace DW
theorem LU{n e:Nat}{A:Mx.Mat}(hA:Mx.Rc n A)(he:3<=e)(hb:Mx.Bd (2^e) A):∀c∈(dp n (Mx.red n 0 (0,cH A)).2).drop (Mx.red n 0 (0,cH A)).1,c.length=A.length/\∀x∈c,x.natAbs<=2^(e*6^n):=fun c hc=>by
 have h1:=Mx.GP (n:=n+A.length) n 0 0 e (cH A) he (gD hA) (fun i j _=>Hk hb i j);have h2:=(Mx.dz n 0 (0,cH A) (gD hA)).rc (gD hA);generalize(Mx.red n 0 (0,cH A)).1=r at*;generalize(Mx.red n 0 (0,cH A)).2=M at*;unfold dp at hc;rw[<-List.map_drop]at hc;obtain⟨l,hl,rfl⟩:=dE.1 hc;obtain⟨k,hk⟩:=List.mem_iff_getElem?.1 hl;rw[eV]at hk;have hlm:=h2 l (bG hk);refine⟨by rw[dY];omega,fun x hx=>?_⟩;obtain⟨j,hj⟩:=List.mem_iff_getElem?.1 (Cv hx);have h3:=h1 (r+k) j aa;unfold Mx.at' at h3;rw[Mx.dR hk,ay,hj]at h3;exact h3
theorem Rp{n a b:Nat}{P:Mx.Mat}{c:List Int}(hn:n<=8)(hc:c.length<=n)(hx:∀x∈c,x.natAbs<=2^a)(hP:Mx.Bd (2^b) P):∀x∈jj P n c,x.natAbs<=2^(a+b+3):=fun x h=>by
 obtain⟨k,_,rfl⟩:=dE.1 h;refine aA (Bm (L:=n) (X:=2^(a+b)) hc (fun j=>mS (OG hx j) (hP j k) (af _)) P.length) ?_;refine aA (dh _ (aA (Nat.min_le_right _ _) hn)) ?_;rw[show(8:Nat)=2^3 by decide,<-ff,mL];exact af _
theorem bds{n:Nat}(hn:n<=5):6^n<=7776/\11^n<=161051:=⟨cv (n:=6) aa hn,cv (n:=11) aa hn⟩
def aU(n:Nat)(ma:Mx.Mat)(ea:Int)(mb:Mx.Mat)(eb:Int):Mx.Mat:=mapM (fun x=>(eb/nG n mb eb)*x) (nR n ma ea)
section
variable {n : Nat} {ma mb : Mx.Mat} {ea eb : Int} (h : eZ n ma ea mb eb)
include h
theorem eZ.law:Mx.Two n (aU n ma ea mb eb) (aU n mb eb ma ea)/\(nR n (aU n ma ea mb eb++aU n mb eb ma ea) (ea/nG n ma ea*(eb/nG n mb eb))).length=n/\(nR n (Mx.mtT n (aU n ma ea mb eb) (aU n ma ea mb eb++aU n mb eb ma ea)) (ea/nG n ma ea*(eb/nG n mb eb))).length=n/\Mx.D n (Mx.at' (Mx.mtT n (aU n ma ea mb eb) (aU n ma ea mb eb++aU n mb eb ma ea)))≠0/\∃k:Int,1<=k/\
  Mx.dpr (Mx.at' (nR n (Mx.mtT n (aU n ma ea mb eb) (aU n ma ea mb eb++aU n mb eb ma ea)) (ea/nG n ma ea*(eb/nG n mb eb)))) n*Mx.dpr (fun _ _=>ea/nG n ma ea) n=k*(Mx.dpr (Mx.at' (nR n ma ea)) n*Mx.dpr (fun _ _=>(ea/nG n ma ea*(eb/nG n mb eb))/nG n (Mx.mtT n (aU n ma ea mb eb) (aU n ma ea mb eb++aU n mb eb ma ea)) (ea/nG n ma ea*(eb/nG n mb eb))) n)/\
  Mx.dpr (Mx.at' (nR n mb eb)) n*Mx.dpr (fun _ _=>(ea/nG n ma ea*(eb/nG n mb eb))/nG n (aU n ma ea mb eb++aU n mb eb ma ea) (ea/nG n ma ea*(eb/nG n mb eb))) n=k*(Mx.dpr (Mx.at' (nR n (aU n ma ea mb eb++aU n mb eb ma ea) (ea/nG n ma ea*(eb/nG n mb eb)))) n*Mx.dpr (fun _ _=>eb/nG n mb eb) n):=
 Mx.Ma (cC h.ca).2.2.2.1 h.fa (cC h.ca).2.1 (cC h.ca).1 (cC h.ca).2.2.1 h.fb (cC h.cb).2.1 (cC h.cb).1 (cC h.cb).2.2.1 (P:=aU n ma ea mb eb) (Q:=aU n mb eb ma ea) rfl rfl
theorem eZ.two:Mx.Two n (aU n ma ea mb eb) (aU n mb eb ma ea):=h.law.1
theorem eZ.pb:Mx.Bd (2^570) (aU n ma ea mb eb):=fun i j=>by
 unfold aU;rw[jo (fun x=>(eb/nG n mb eb)*x) (cJ _)];exact mS (a:=50) (b:=520) (c:=570) (fD h.cb) (jO (iA h.ca h.n5) i j) aq
theorem eZ.qb:Mx.Bd (2^570) (aU n mb eb ma ea):=fun i j=>by
 unfold aU;rw[jo (fun x=>(ea/nG n ma ea)*x) (cJ _)];exact mS (a:=50) (b:=520) (c:=570) (fD h.ca) (jO (iA h.cb h.n5) i j) aq
theorem eZ.ab:Mx.Bd (2^570) (aU n ma ea mb eb++aU n mb eb ma ea):=fun i j=>by
 by_cases hi:i<(aU n ma ea mb eb).length
 ·rw[Mx.uC hi];exact h.pb i j
 ·obtain⟨k,rfl⟩:∃k,i=(aU n ma ea mb eb).length+k:=⟨i-(aU n ma ea mb eb).length,by omega⟩;rw[Mx.FO];exact h.qb k j
theorem eZ.zb:(ea/nG n ma ea*(eb/nG n mb eb)).natAbs<=2^100:=mS (fD h.ca) (fD h.cb) aq
theorem eZ.zp:0<ea/nG n ma ea*(eb/nG n mb eb):=Int.mul_pos (cC h.ca).2.2.1 (cC h.cb).2.2.1
theorem eZ.b1:Fn Tryz.prog 100 [dW (nR n ma ea),.nm (eb/nG n mb eb)] (dW (aU n ma ea mb eb)):=by
 have:=cC h.ca;have:=h.fa;exact Qk _ n _ aa aa aa (cC h.ca).2.1 (bj (fD h.cb) aa) (fun i j=>bj (jO (iA h.ca h.n5) i j) aa)
theorem eZ.b2:Fn Tryz.prog 100 [dW (nR n mb eb),.nm (ea/nG n ma ea)] (dW (aU n mb eb ma ea)):=by
 have:=cC h.cb;have:=h.fb;exact Qk _ n _ aa aa aa (cC h.cb).2.1 (bj (fD h.ca) aa) (fun i j=>bj (jO (iA h.cb h.n5) i j) aa)
theorem eZ.cc:Fn Tryz.prog 140 [.ls 1 [dW (aU n ma ea mb eb),dW (aU n mb eb ma ea)]] (dW (aU n ma ea mb eb++aU n mb eb ma ea)):=by
 have:=cC h.cb;have:=h.two.pl;have:=h.two.ql;exact O4 _ _ aa aa
theorem eZ.sum:Fn Tryz.prog 67 [dL n ma ea,dL n mb eb] (hnd n (nR n (aU n ma ea mb eb++aU n mb eb ma ea) (ea/nG n ma ea*(eb/nG n mb eb))) (ea/nG n ma ea*(eb/nG n mb eb)/nG n (aU n ma ea mb eb++aU n mb eb ma ea) (ea/nG n ma ea*(eb/nG n mb eb)))):=by
 have hn:=cC h.ca;have hk:Mk n (aU n ma ea mb eb++aU n mb eb ma ea) (ea/nG n ma ea*(eb/nG n mb eb)):=⟨hn.2.2.2.1,h.n5,by rw[h.two.al];omega,h.two.ar,fun i j=>aA (h.ab i j) (JN (a:=570) (b:=600) aq),h.zp,aA h.zb (JN (a:=100) (b:=600) aq)⟩;have NO:=hk.net;have HD:=hk.hand;obtain⟨n2,R2,d2,C,e,_⟩:=Me n (nR n (aU n ma ea mb eb++aU n mb eb ma ea) (ea/nG n ma ea*(eb/nG n mb eb))) (ea/nG n ma ea*(eb/nG n mb eb)/nG n (aU n ma ea mb eb++aU n mb eb ma ea) (ea/nG n ma ea*(eb/nG n mb eb)));rw[e]at HD⊢;exact TD n ea n eb _ _ _ _ n2 d2 C ma mb _ _ _ _ _ _ R2 (CE h.ca h.cb) (pread h.ca) (pread h.cb) h.b1 h.b2 h.cc (sM _ _ (bj (fD h.ca) aa) (bj (fD h.cb) aa)) NO HD
theorem eZ.mbd:∃e,2*(e*11^n)<=6000000000000/\6<=e/\Mx.Bd (2^e) (Mx.mtT n (aU n ma ea mb eb) (aU n ma ea mb eb++aU n mb eb ma ea)):=by
 obtain⟨h6,h11⟩:=bds h.n5;refine⟨570*6^n+570+3,?_,by omega,jO fun l hl=>?_⟩
 ·have:(570*6^n+570+3)*11^n<=4432893*161051:=cn aa h11;omega
 ·obtain⟨c,hc,rfl⟩:=dE.1 hl;have hU:fK (aU n ma ea mb eb++aU n mb eb ma ea)=dp n (Mx.red n 0 (0,cH (aU n ma ea mb eb++aU n mb eb ma ea))).2:=by unfold fK HT;rw[h.two.aw]
  have hT:(HT (aU n ma ea mb eb++aU n mb eb ma ea)).1=(Mx.red n 0 (0,cH (aU n ma ea mb eb++aU n mb eb ma ea))).1:=by unfold HT;rw[h.two.aw]
  rw[hU,hT]at hc;obtain⟨c1,c2⟩:=LU h.two.ar aq h.ab c hc;exact Rp (by have:=h.n5;omega) (by rw[bf,h.two.pl];exact Nat.min_le_left _ _) (fun x hx=>c2 x (ph hx)) h.pb
theorem eZ.meet:Fn Tryz.prog 68 [dL n ma ea,dL n mb eb] (hnd n (nR n (Mx.mtT n (aU n ma ea mb eb) (aU n ma ea mb eb++aU n mb eb ma ea)) (ea/nG n ma ea*(eb/nG n mb eb))) (ea/nG n ma ea*(eb/nG n mb eb)/nG n (Mx.mtT n (aU n ma ea mb eb) (aU n ma ea mb eb++aU n mb eb ma ea)) (ea/nG n ma ea*(eb/nG n mb eb)))):=by
 have hn:=cC h.ca;have h5:=h.n5;obtain⟨h6,h11⟩:=bds h5;have hal:=h.two.al;have hpl:=h.two.pl;have htl:=h.two.tl;have htr:=h.two.tr;have CC:=h.cc;have TR:=wtr_d (aU n ma ea mb eb++aU n mb eb ma ea) n 570 (fun e=>by rw[e]at hal;simp at hal;omega) aa h.two.ar aa aa aa h.ab;have hlow:=LU h.two.ar aq h.ab;have hU:fK (aU n ma ea mb eb++aU n mb eb ma ea)=dp n (Mx.red n 0 (0,cH (aU n ma ea mb eb++aU n mb eb ma ea))).2:=by unfold fK HT;rw[h.two.aw]
 have hT:(HT (aU n ma ea mb eb++aU n mb eb ma ea)).1=(Mx.red n 0 (0,cH (aU n ma ea mb eb++aU n mb eb ma ea))).1:=by unfold HT;rw[h.two.aw]
 have hlen:(dp n (Mx.red n 0 (0,cH (aU n ma ea mb eb++aU n mb eb ma ea))).2).length=n+n:=by rw[<-hU];exact h.two.ul
 have hrows:∀c∈dp n (Mx.red n 0 (0,cH (aU n ma ea mb eb++aU n mb eb ma ea))).2,c.length=n+n:=fun c hc=>by
  obtain⟨l,hl,rfl⟩:=dE.1 hc;have:=(Mx.dz n 0 (0,cH (aU n ma ea mb eb++aU n mb eb ma ea)) (gD h.two.ar)).rc (gD h.two.ar) l hl;rw[dY];omega
 have hr:(Mx.red n 0 (0,cH (aU n ma ea mb eb++aU n mb eb ma ea))).1=n:=by rw[<-hT];exact h.two.JK
 have TI:∀c∈(dp n (Mx.red n 0 (0,cH (aU n ma ea mb eb++aU n mb eb ma ea))).2).drop (Mx.red n 0 (0,cH (aU n ma ea mb eb++aU n mb eb ma ea))).1,Fn Tryz.prog 97 [dW [c.take (aU n ma ea mb eb).length],dW (aU n ma ea mb eb)] (dW [jj (aU n ma ea mb eb) n (c.take (aU n ma ea mb eb).length)]):=fun c hc=>by
  obtain⟨c1,c2⟩:=hlow c hc;have:=Ni [c.take (aU n ma ea mb eb).length] (aU n ma ea mb eb) n n (570*6^n) 570 aV aa aa aa aa hpl aa (fun r hr=>by rw[cr.1 hr,bf];omega) h.two.pr (jO fun l hl x hx=>by rw[cr.1 hl]at hx;exact c2 x (ph hx)) h.pb;rw[Sb h.two.pr]at this;exact this
 obtain⟨e,he1,he2,he3⟩:=h.mbd;have NO:=Bf n (Mx.mtT n (aU n ma ea mb eb) (aU n ma ea mb eb++aU n mb eb ma ea)) n e (ea/nG n ma ea*(eb/nG n mb eb)) aa aa aa he2 he1 htr he3 (bj h.zb aa);obtain⟨a1,a2,a3,a4,a5,a6⟩:=Mx.eE htr h.zp;have hrl:=Mx.JV htr (ea/nG n ma ea*(eb/nG n mb eb));have hbd:∀i j,Fit (Mx.at' (nR n (Mx.mtT n (aU n ma ea mb eb) (aU n ma ea mb eb++aU n mb eb ma ea)) (ea/nG n ma ea*(eb/nG n mb eb))) i j):=fun i j=>by
  have h1:=Mx.sC (n:=n) (e:=e) aa n 0 0 _ htr (by rw[oE,eW];exact he3);rw[bu]at h1;refine bj (e:=e*11^n) (jO (fun l hl x hx=>?_) i j) aa;obtain⟨r,hr,rfl⟩:=dE.1 hl;obtain⟨y,hy,rfl⟩:=dE.1 hx;exact aA (oN a5 ((Mx.jW (nH n _) _).2 r hr y hy)) (sS h1 (zG hr) hy)
 have HD:=EU n _ n (ea/nG n ma ea*(eb/nG n mb eb)/nG n (Mx.mtT n (aU n ma ea mb eb) (aU n ma ea mb eb++aU n mb eb ma ea)) (ea/nG n ma ea*(eb/nG n mb eb))) aa aa aa a4 hbd (bj (aA (oN a5 (Mx.jW (nH n _) _).1) h.zb) aa) aa;obtain⟨n2,R2,d2,C,e2,_⟩:=Me n (nR n (Mx.mtT n (aU n ma ea mb eb) (aU n ma ea mb eb++aU n mb eb ma ea)) (ea/nG n ma ea*(eb/nG n mb eb))) (ea/nG n ma ea*(eb/nG n mb eb)/nG n (Mx.mtT n (aU n ma ea mb eb) (aU n ma ea mb eb++aU n mb eb ma ea)) (ea/nG n ma ea*(eb/nG n mb eb)));rw[e2]at HD⊢;unfold Mx.mtT at NO HD;rw[hU,hT]at NO HD;exact RS n ea n eb _ _ _ _ n2 d2 C _ n ma mb _ _ _ _ _ _ _ _ R2 aa aa aa aa (fun c hc=>by have:=hrows c hc;omega) (CE h.ca h.cb) (pread h.ca) (pread h.cb) h.b1 h.b2 h.cc TR TI (sM _ _ (bj (fD h.ca) aa) (bj (fD h.cb) aa)) NO HD
end
end DW
end
section
open Go.RowKit
namespace DW
theorem LX{n:Nat}{R:Mx.Mat}{d:Int}(h0:0<n)(h5:n<=5)(hl:R.length<=64)(hR:Mx.Rc n R)(h1:R.all (fun l=>l.all (inb 1000000000000000))=true)(hd:0<d)(h2:inb 1000000000000000 d=true):lck n R d=0:=by
 have h3:=jZ.1 h2;unfold lck;rw[ai aa,ai aa];exact zK fun l hl=>⟨by rw[hR l hl],fun z hz=>eh.1 (eh.1 h1 l hl) z hz⟩
theorem vD(dim:Int)(R:Mx.Mat)(d:Int):(∃n2 R2 d2,hnd dim R d= .tp [dL n2 R2 d2,zI 8])\/(hnd dim R d= .tp [dL dim R d,zI 0]/\R.all (fun l=>l.all (inb 1000000000000000))=true/\inb 1000000000000000 d=true):=by
 unfold hnd;split
 ·next h=>exact .inr ⟨rfl,h⟩
 ·exact .inl ⟨_,_,_,rfl⟩
theorem J4(n1 e1 n2 e2:Int)(m1 m2:List (List Int))(hd1:I64 n1)(he1:I64 e1)(hd2:I64 n2)(he2:I64 e2):Fn Tryz.prog 12 [dL n1 m1 e1,dL n2 m2 e2] (.sc (.bool true)):=by
 have L1:=G5 n1 e1 m1;have L2:=G5 n2 e2 m2;by_cases hs:lgt n1 m1=true/\lgt n2 m2=true
 ·obtain⟨hs1,hs2⟩:=hs;rw[hs1]at L1;rw[hs2]at L2;obtain⟨a1,a2,a3⟩:=LV hs1;obtain⟨b1,b2,b3⟩:=LV hs2;have CA:=xN n1 e1 m1 hd1 he1 aa (fun r hr=>by have:=a3 r hr;omega);have CB:=xN n2 e2 m2 hd2 he2 aa (fun r hr=>by have:=b3 r hr;omega);have TP:=Ll n1 e1 n2 e2 m1 m2 CA CB;have TR:=Tw n1 e1 n2 e2 m1 m2 (Eg n1 e1 m1 aa) (Eg n2 e2 m2 aa);by_cases hc:tck n1 m1 e1 n2 m2 e2=0
  ·have hq : lck n1 m1 e1 = 0 /\ lck n2 m2 e2 = 0 /\ n1 = n2 := by
    unfold tck at hc;split at hc
    ·next h=>exact absurd hc h
    ·next h=>
     split at hc
     ·next h2=>exact absurd hc h2
     ·next h2=>
      split at hc
      ·next h3=>exact⟨Classical.not_not.1 h,Classical.not_not.1 h2,h3⟩
      ·cases hc
   obtain⟨ca,cb,rfl⟩:=hq;rw[hc]at TR;obtain⟨k1,k2,k3⟩:=iQ ca;obtain⟨n,rfl⟩:∃n:Nat,n1=n:=⟨n1.toNat,by omega⟩;have h5:n<=5:=by omega
   by_cases hf:(nR n m1 e1).length=n/\(nR n m2 e2).length=n
   ·have h:eZ n m1 e1 m2 e2:=⟨ca,cb,h5,hf.1,hf.2⟩;have IA:=h.pd;have RX:=h.rd;obtain⟨p,q,c,e,hc8⟩:=zZ (ixN n m1 e1 m2 e2/(Int.gcd (ixN n m1 e1 m2 e2) (ixM n m1 e1 m2 e2):Int)) (ixM n m1 e1 m2 e2/(Int.gcd (ixN n m1 e1 m2 e2) (ixM n m1 e1 m2 e2):Int));have e':ixD n m1 e1 m2 e2= .tp [dF p q,zI c]:=e;rw[e']at IA RX;clear e e';rcases hc8 with⟨rfl,_,_⟩|rfl
    ·obtain⟨hT,sl,ml,hTd,k,hk,eq1,eq2⟩:=h.law;have hz:=h.zp;have SM:=h.sum;have MT:=h.meet;have hnS:=Mx.eE hT.ar hz;have hnM:=Mx.eE hT.tr hz;generalize Mx.mtT n (aU n m1 e1 m2 e2) (aU n m1 e1 m2 e2++aU n m2 e2 m1 e1)=T at*;generalize aU n m1 e1 m2 e2++aU n m2 e2 m1 e1=A at*;rcases vD n (nR n A (e1/nG n m1 e1*(e2/nG n m2 e2))) (e1/nG n m1 e1*(e2/nG n m2 e2)/nG n A (e1/nG n m1 e1*(e2/nG n m2 e2)))with⟨n3,R3,d3,es⟩|⟨es,es1,es2⟩
     ·rw[es]at SM;obtain⟨n4,R4,d4,C,em,hC⟩:∃n4 R4 d4 C,hnd n (nR n T (e1/nG n m1 e1*(e2/nG n m2 e2))) (e1/nG n m1 e1*(e2/nG n m2 e2)/nG n T (e1/nG n m1 e1*(e2/nG n m2 e2)))= .tp [dL n4 R4 d4,zI C]/\(C=0\/C=8):=by
       rcases vD n (nR n T (e1/nG n m1 e1*(e2/nG n m2 e2))) (e1/nG n m1 e1*(e2/nG n m2 e2)/nG n T (e1/nG n m1 e1*(e2/nG n m2 e2)))with⟨n3,R3,d3,es⟩|⟨es,_,_⟩
       ·exact⟨_,_,_,_,es, .inr rfl⟩
       ·exact⟨_,_,_,_,es, .inl rfl⟩
      rw[em]at MT;exact zR n e1 n e2 m1 m2 p q n3 d3 n4 d4 8 C R3 R4 (.inr rfl) hC (fun h=>by omega) L1 L2 IA TR RX SM MT
     ·rw[es]at SM;rcases vD n (nR n T (e1/nG n m1 e1*(e2/nG n m2 e2))) (e1/nG n m1 e1*(e2/nG n m2 e2)/nG n T (e1/nG n m1 e1*(e2/nG n m2 e2)))with⟨n4,R4,d4,em⟩|⟨em,em1,em2⟩
      ·rw[em]at MT;exact zR n e1 n e2 m1 m2 p q _ _ n4 d4 0 8 _ R4 (.inl rfl) (.inr rfl) (fun h=>by omega) L1 L2 IA TR RX SM MT
      ·rw[em]at MT;have hlS:=LX aa h5 aa hnS.2.2.2.1 es1 hnS.2.2.2.2.2 es2;have hlM:=LX aa h5 aa hnM.2.2.2.1 em1 hnM.2.2.2.2.2 em2;have hA:eZ n m1 e1 (nR n T (e1/nG n m1 e1*(e2/nG n m2 e2))) (e1/nG n m1 e1*(e2/nG n m2 e2)/nG n T (e1/nG n m1 e1*(e2/nG n m2 e2))):=⟨ca,hlM,h5,hf.1,by rw[hnM.2.2.1];exact ml⟩;have hB:eZ n (nR n A (e1/nG n m1 e1*(e2/nG n m2 e2))) (e1/nG n m1 e1*(e2/nG n m2 e2)/nG n A (e1/nG n m1 e1*(e2/nG n m2 e2))) m2 e2:=⟨hlS,cb,h5,by rw[hnS.2.2.1];exact sl,hf.2⟩;have I1:=hA.pd;have I2:=hB.pd;have f1:ixN n m1 e1 (nR n T (e1/nG n m1 e1*(e2/nG n m2 e2))) (e1/nG n m1 e1*(e2/nG n m2 e2)/nG n T (e1/nG n m1 e1*(e2/nG n m2 e2)))=k*ixM n m1 e1 (nR n T (e1/nG n m1 e1*(e2/nG n m2 e2))) (e1/nG n m1 e1*(e2/nG n m2 e2)/nG n T (e1/nG n m1 e1*(e2/nG n m2 e2))):=by
        unfold ixN ixM;rw[hnM.2.2.1,hnM.2.1,Int.ediv_one];exact eq1
       have f2:ixN n (nR n A (e1/nG n m1 e1*(e2/nG n m2 e2))) (e1/nG n m1 e1*(e2/nG n m2 e2)/nG n A (e1/nG n m1 e1*(e2/nG n m2 e2))) m2 e2=k*ixM n (nR n A (e1/nG n m1 e1*(e2/nG n m2 e2))) (e1/nG n m1 e1*(e2/nG n m2 e2)/nG n A (e1/nG n m1 e1*(e2/nG n m2 e2))) m2 e2:=by
        unfold ixN ixM;rw[hnS.2.2.1,hnS.2.1,Int.ediv_one];exact eq2
       unfold ixD at I1 I2;rw[(um hA.mp f1).1,(um hA.mp f1).2]at I1;rw[(um hB.mp f2).1,(um hB.mp f2).2]at I2;obtain⟨a,b,c,e,hc8⟩:=zZ k 1;rw[e]at I1 I2;exact J3 n e1 n e2 m1 m2 p q n _ n _ a b c _ _ (by
        rcases hc8 with⟨h1,h2,h3⟩|h1
        ·exact .inl ⟨h1,h3,by omega⟩
        ·exact .inr h1) L1 L2 IA TR RX SM MT I1 I2
    ·exact zS n e1 n e2 m1 m2 p q 8 aa L1 L2 IA TR RX
   ·obtain⟨x1,x2⟩:=ix_n ca cb h5 hf;exact zS n e1 n e2 m1 m2 0 0 12 aa L1 L2 x1 TR x2
  ·exact J5 n1 e1 n2 e2 m1 m2 _ hc L1 L2 (N8 n1 e1 n2 e2 _ m1 m2 hc TP) TR
 ·refine Gk n1 e1 n2 e2 m1 m2 _ _ ?_ L1 L2
  cases h1:lgt n1 m1 with
  |false=>rfl
  |true=>
   cases h2:lgt n2 m2 with
   |false=>rfl
   |true=>exact absurd ⟨h1,h2⟩ hs
end DW
theorem LZ(v0 v1:Value)(n0 e0:Int)(l0:List (List Int))(n1 e1:Int)(l1:List (List Int))(b0:I64 n0)(c0:I64 e0)(b1:I64 n1)(c1:I64 e1)(w:World)(h0:DW.AR (fun _=>False) w (DW.dL n0 l0 e0) v0)(h1:DW.AR (fun _=>False) w (DW.dL n1 l1 e1) v1):Calls Tryz.prog 12 #[v0,v1] w fun e w'=>e= .returned (.bool true)/\Below w.heap.size w w':=by
 refine((DW.J4 n0 e0 n1 e1 l0 l1 b0 c0 b1 c1).2 (fun _=>False) w #[v0,v1] (fun _ h=>h.elim) (by simp only[DW.ATp];exact⟨v0,_,rfl,h0,v1,_,rfl,h1,rfl⟩)).mono fun e w' ⟨u,h1,h2,h3⟩=>⟨?_,h3⟩;simp only[DW.AR]at h2;rw[h1,h2.1]
end
end Go.Proofs.YtcgjmdpcplhanaaGreat
