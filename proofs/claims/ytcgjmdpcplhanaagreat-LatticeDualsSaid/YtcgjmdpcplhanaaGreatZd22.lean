/- Lemmas for the law: E66 -/
import Derived.Test.YtcgjmdpcplhanaaGreatZd21
namespace Go.Proofs.YtcgjmdpcplhanaaGreat
section
theorem zs170{p q:Prop}(h:q)(f:Wq q->p:=by(intro hW;((refine ez (k:=12) (z:=(.agg #[.int .i64 0,.slice none 0 0,.int .i64 0])) (d:=(.st [.sc (.int .i64 0),.sc (.slice none 0 0),.sc (.int .i64 0)])) rfl rfl rfl rfl rfl ai aj aj dT aj aj cu ?_));exact hW.out)):p:=f ⟨h⟩
theorem Qj{p q:Prop}(h:q)(f:Wq q->p:=by(intro hW;(refine kW ?_;refine kX ?_;refine zs170 ?_;refine lT ?_;refine cK ?_);exact hW.out)):p:=f ⟨h⟩
theorem zs291{p q:Prop}(h:q)(f:Wq q->p:=by(intro hW;(refine cO ?_;refine Ja ?_;refine zs4 ?_;refine jW ?_;refine jW ?_;refine C4 ?_;refine yd ?_;refine kT ?_);exact hW.out)):p:=f ⟨h⟩
theorem zs167{p q:Prop}(h:q)(f:Wq q->p:=by(intro hW;((refine ez (k:=8) (z:=(.agg #[.int .i64 0,.slice none 0 0,.int .i64 0])) (d:=(.st [.sc (.int .i64 0),.sc (.slice none 0 0),.sc (.int .i64 0)])) rfl rfl rfl rfl rfl ai aj aj dT aj aj cu ?_));exact hW.out)):p:=f ⟨h⟩
theorem zs290{p q:Prop}(h:q)(f:Wq q->p:=by(intro hW;(refine mI ?_;refine zs4 ?_;refine jV ?_;refine kX ?_;refine zs167 ?_;refine lT ?_;refine cK ?_);exact hW.out)):p:=f ⟨h⟩
theorem zs163{p q:Prop}(h:q)(f:Wq q->p:=by(intro hW;((first|(refine aLs rfl rfl rfl rfl ?_ ?_;(focus(apply bh;(conv=>lhs;whnf);(first|done|exact rfl|(apply bg;(first|(apply au;omega)|(apply aw;omega)|assumption|(simp;done)))))))|refine aLw rfl rfl rfl rfl cE ve ?_));exact hW.out)):p:=f ⟨h⟩
theorem yS{p q:Prop}(h:q)(f:Wq q->p:=by(intro hW;(refine kW ?_;refine rZ ?_;refine zs4 ?_;refine zs163 ?_;refine jW ?_;refine Dx ?_;refine AU ?_;refine fM ?_;refine I1 ?_;refine yd ?_;refine kT ?_);exact hW.out)):p:=f ⟨h⟩
theorem zs165{p q:Prop}(h:q)(f:Wq q->p:=by(intro hW;((refine ez (k:=5) (z:=(.agg #[.int .i64 0,.slice none 0 0,.int .i64 0])) (d:=(.st [.sc (.int .i64 0),.sc (.slice none 0 0),.sc (.int .i64 0)])) rfl rfl rfl rfl rfl ai aj aj dT aj aj cu ?_));exact hW.out)):p:=f ⟨h⟩
theorem Ql{p q:Prop}(h:q)(f:Wq q->p:=by(intro hW;(refine mI ?_;refine zs4 ?_;refine jV ?_;refine kX ?_;refine zs165 ?_;refine lT ?_;refine cK ?_);exact hW.out)):p:=f ⟨h⟩
theorem Jf{p q:Prop}(h:q)(f:Wq q->p:=by(intro hW;(refine mH ?_;refine yS ?_;refine bp ?_;refine Ql ?_;refine zs2 ?_;refine wK ?_;refine qR ?_;refine zs290 ?_;refine zs2 ?_;refine zs291 ?_;refine bp ?_;refine tL ?_);exact hW.out)):p:=f ⟨h⟩
theorem zb64{p:Prop}(h:p:=by(apply T0;(exact rfl);(assumption);(exact rfl))):p:=h
theorem Rd{p q:Prop}(h:q)(f:Wq q->p:=by(intro hW;((first|(refine aLs rfl rfl rfl rfl ?_ ?_;(focus(apply bh;(conv=>lhs;whnf);(first|done|exact rfl|(apply bg;(first|(apply au;omega)|(apply aw;omega)|assumption|(simp;done)))))))|refine aLw rfl rfl rfl rfl cE zb64 ?_));exact hW.out)):p:=f ⟨h⟩
theorem zs164{p q:Prop}(h:q)(f:Wq q->p:=by(intro hW;(refine aL1 rfl rfl rfl zb64 ?_);exact hW.out)):p:=f ⟨h⟩
theorem CQ{p q:Prop}(h:q)(f:Wq q->p:=by(intro hW;(refine gar ?_;refine zs164 ?_;refine cK ?_);exact hW.out)):p:=f ⟨h⟩
theorem zs171{p q:Prop}(h:q)(f:Wq q->p:=by(intro hW;((first|(refine B0 rfl rfl rfl rfl ?_ ?_;(focus(apply bh;exact rfl)))|(refine aLs rfl rfl rfl rfl ?_ ?_;(focus(apply bh;(conv=>lhs;whnf);(first|done|exact rfl|(apply bg;(first|(apply au;omega)|(apply aw;omega)|assumption|(simp;done)))))))|refine aLw rfl rfl rfl rfl cE si ?_));exact hW.out)):p:=f ⟨h⟩
theorem zs173{p q:Prop}(h:q)(f:Wq q->p:=by(intro hW;((first|(refine aLs rfl rfl rfl rfl ?_ ?_;(focus(apply bh;(conv=>lhs;whnf);(first|done|exact rfl|(apply bg;(first|(apply au;omega)|(apply aw;omega)|assumption|(simp;done)))))))|refine aLw rfl rfl rfl rfl cE zb5 ?_));exact hW.out)):p:=f ⟨h⟩
theorem zs172{p q:Prop}(h:q)(f:Wq q->p:=by(intro hW;((first|(refine B0 rfl rfl rfl rfl ?_ ?_;(focus(apply bh;exact rfl)))|(refine aLs rfl rfl rfl rfl ?_ ?_;(focus(apply bh;(conv=>lhs;whnf);(first|done|exact rfl|(apply bg;(first|(apply au;omega)|(apply aw;omega)|assumption|(simp;done)))))))|refine aLw rfl rfl rfl rfl cE zb25 ?_));exact hW.out)):p:=f ⟨h⟩
theorem Qi{p q:Prop}(h:q)(f:Wq q->p:=by(intro hW;(refine cO ?_;refine yf ?_;refine fM ?_;refine Dx ?_;refine Rk ?_;refine zs171 ?_;refine zs172 ?_;refine zs173 ?_;refine kv ?_;refine zs4 ?_;refine jW ?_;refine jW ?_;refine C4 ?_;refine kv ?_;refine zs4 ?_;refine Rd ?_;refine kv ?_;refine cK ?_);exact hW.out)):p:=f ⟨h⟩
theorem zs168{p q:Prop}(h:q)(f:Wq q->p:=by(intro hW;(refine wz [10] ai zb43 ?_);exact hW.out)):p:=f ⟨h⟩
theorem zs169{p q:Prop}(h:q)(f:Wq q->p:=by(intro hW;((refine qd (k:=10) (z:=(.agg #[.int .i64 0,.slice none 0 0,.int .i64 0])) (d:=(.st [.sc (.int .i64 0),.sc (.slice none 0 0),.sc (.int .i64 0)])) rfl rfl rfl rfl rfl ai aj aj dT aj aj ?_));exact hW.out)):p:=f ⟨h⟩
theorem Qk{p q:Prop}(h:q)(f:Wq q->p:=by(intro hW;(refine zs168 ?_;refine iH ?_;refine ij ?_;refine oz ?_;refine wO ?_;refine ij ?_;refine pB ?_;refine pB ?_;refine zs169 ?_;refine oA ?_;refine wN ?_;refine mL ?_);exact hW.out)):p:=f ⟨h⟩
end
section
open Go.RowKit
namespace DW
section
variable {n : Nat} {m f : Mx.Mat} {den : Int} (h : gH n m f den)
include h
theorem gH.at(i j:Nat)(hi:i<n)(hj:j<n):Mx.at' (duM n m f den) i j=Mx.sm n fun k=>Mx.at' f i k*Mx.at' (nR n m den) j k:=by
 unfold duM;rw[Mx.Ez (by rw[h.fl];exact hi) hj,Mx.gL];exact Mx.bu _ _ _ fun l hl=>by rw[Mx.pW _ hl (by rw[h.full];exact hj)]
theorem gH.nz(hx:Mx.D n (Mx.at' f)≠0):Mx.D n (Mx.at' (duM n m f den))≠0:=
 Mx.O0 h.n0 hx (Mx.PA h.norm.1 h.full h.norm.2.2.1) h.at
theorem gH.is:Mx.AI n f (nR n m den) (den/nG n m den) (duM n m f den) (duS n m f den) (duE n m f den):=by
 have:=h.n0;exact⟨rfl,rfl,rfl⟩
theorem gH.fin:∀l∈f,∀z∈l,I64 z:=fun l hl z hz=>by
 have:=(wq h.fc).2.2.2 l hl z hz;unfold I64;omega
theorem gH.fmc:fmc n f=0:=by
 unfold DW.fmc;rw[ah (fun h2=>h2 h.fc),ak ⟨by rw[h.fl],by rw[h.fw]⟩]
set_option maxRecDepth 20000 in
theorem gH.pd(hx:Mx.D n (Mx.at' f)≠0):Fn Tryz.prog 36 [dL n m den,dM f] (hnd n (nR n (duS n m f den) (duE n m f den)) (duE n m f den/nG n (duS n m f den) (duE n m f den))):=by
 have hD:=h.nz hx;have hk:=h.mk4 hD;have h4:=h.n4;have hn0:=h.n0;have hl:=h.full;obtain⟨k1,k2,k3⟩:=gZ h.lc;have hR:=jn h.lc;have hn:=h.norm;obtain⟨n2,R2,d2,C,e,_⟩:=FJ n (nR n (duS n m f den) (duE n m f den)) (duE n m f den/nG n (duS n m f den) (duE n m f den));have HN:=hk.hand;rw[e]at HN⊢;have hfr:=h.frc;have hfl:=h.fl;have FO:=Ht n den m f tO tO aa (fun r hr=>by have:=hR r hr;omega) aa (fun r hr=>by have:=hfr r hr;omega);rw[Cq n m den f h.lc,h.fmc]at FO;have RD:=EW n den m n tO aa aa aa hR (tu h.lc) (Ad h.lc);have WO:=Kf f n aa aa hfr h.fin;have h24:2^n<=2^4:=cH aa h4;have DF:=zx f n 50 hfl hfr aa (aH (cZ (50+1) h24) aa) (mC h.fc);have TR:=N7 (nR n m den) n (fun e=>by rw[e]at hl;simp at hl;omega) aa hn0 aa hn.1;have TI:=N8 f (Mx.trM n (nR n m den)) n n 50 520 aa aa aa hn0 hn0 (Mx.gL _ _) aa hfr h.trc (mC h.fc) h.tbd;rw[Tn h.trc]at TI;have DM:=zx (duM n m f den) n 573 h.len h.rc aa (aH (cZ (573+1) h24) aa) h.bd;have hlen:=h.len;have hrc:=h.rc;have h23:2^(n-1)<=2^4:=cH aa aa;have hq:(573+(n-1))*(n-1)<=576*3:=cv aa aa;have AJ:=UI (duM n m f den) (n-1) 573 aa (by rw[show n-1+1=n by omega];exact hrc) h.bd aa (aH (cZ (573+1) h23) aa) aa;have har:=Mx.AB (duM n m f den);rw[hlen]at har;have BY:=wby_d (Mx.adM (duM n m f den)) n (den/nG n m den) (by rw[Mx.mE];omega) hn0 aa har (bL (Aq h.lc) aa) (fun i j=>bL (xH h.abd i j) aa);rw[<-Mx.rH]at BY;have hdy:=bL h.det aa;exact Te n den (den/nG n m den) (Mx.D n (Mx.at' f)) (Mx.D n (Mx.at' (duM n m f den))) (duE n m f den) _ n2 d2 C m f (nR n m den) _ _ _ _ _ R2 (by rw[hl]) FO RD WO hx DF TR TI DM AJ BY (Sn _ hdy) (LD _ hdy) rfl hk.net HN
set_option maxRecDepth 20000 in
theorem gH.rd(hx:Mx.D n (Mx.at' f)≠0):Fn Tryz.prog 37 [dL n m den,dM f] (hnd n (nR n (duS n m f den) (duE n m f den)) (duE n m f den/nG n (duS n m f den) (duE n m f den))):=by
 have hD:=h.nz hx;have hk:=h.mk4 hD;have h4:=h.n4;have hn0:=h.n0;have hl:=h.full;obtain⟨k1,k2,k3⟩:=gZ h.lc;have hR:=jn h.lc;have hn:=h.norm;obtain⟨n2,R2,d2,C,e,_⟩:=FJ n (nR n (duS n m f den) (duE n m f den)) (duE n m f den/nG n (duS n m f den) (duE n m f den));have MD:=hk.made;rw[e]at MD⊢;have hfr:=h.frc;have hfl:=h.fl;have CF:=Hm n den m f aa;rw[h.fmc]at CF;have BS:=Ch h.lc aa;have WD:=Eu f aa (fun l hl=>by have:=hfr l hl;omega) (fun l hl z hz=>by have:=h.fin l hl z hz;unfold I64 at this;omega);have h5:(50+n)*n<=54*4:=cv aa h4;have DF:=As 50 n f hfl hfr (mC h.fc) aa aa;have hdf:=qP (e:=50) n (Mx.at' f) fun i j _ _=>mC h.fc i j;have SF:=oS (Mx.D n (Mx.at' f)) (bZ hdf aa);have hsx:sgn (Mx.D n (Mx.at' f))≠0:=fun e=>hx (ue _|>.1 e);have TR:=OJ (nR n m den) n (fun e=>by rw[e]at hl;simp at hl;omega) aa aa hn.1;have htl:=Mx.gL n (nR n m den);have htr:=h.trc;have hfb:=mC h.fc;have hfg:∀row∈f,∀j,(row.getD j 0).natAbs<=2^50:=fun row hr j=>FZ (fun x hx=>aH ((wq h.fc).2.2.2 row hr x hx) av) j;have TI:=Sx f (Mx.trM n (nR n m den)) n aa aa aa ⟨fun row hr=>by have:=hfr row hr;omega,fun j hj=>by rw[htr.rw hj];exact af _,fun row hr j=>bZ (hfg row hr j) aa,fun j k=>bZ (h.tbd j k) aa,fun row hr j k=>bZ (e:=570) (Ew (a:=50) (b:=520) (c:=570) (hfg row hr j) (h.tbd j k) av) aa,fun row hr k j=>bZ (h.dot hr k j) aa⟩;have hlen:=h.len;have hrc:=h.rc;have hq:(573+(n-1))*(n-1)<=576*3:=cv aa aa;have hq2:(573+n)*n<=577*4:=cv aa aa;have AJ:=UW (duM n m f den) (n-1) 573 aa (by rw[show n-1+1=n by omega];exact hrc) h.bd aa aa;have har:=Mx.AB (duM n m f den);rw[hlen]at har;have SC:=OH (Mx.adM (duM n m f den)) (den/nG n m den) (by rw[Mx.mE];omega) (fun l hl=>by have:=har l hl;omega) (bZ (Aq h.lc) aa) (fun l hl x hx=>bZ (h.abd l hl x hx) aa);have DM:=As 573 n (duM n m f den) hlen hrc h.bd aa aa;have SZ:=EH (Mx.D n (Mx.at' (duM n m f den))) (bZ h.det aa);exact Tb n den (den/nG n m den) (Mx.D n (Mx.at' f)) (sgn (Mx.D n (Mx.at' f))) (Mx.D n (Mx.at' (duM n m f den))) (duE n m f den) n2 d2 C m f (nR n m den) _ _ _ _ R2 (by rw[hl];omega) CF BS WD DF hsx SF TR TI AJ SC DM SZ MD
end
theorem Sv{n:Nat}{f:Mx.Mat}(hc:chk f=0)(hl:f.length=n)(hw:wid f=n)(hn0:0<n):chk (Mx.trM n f)=0/\(Mx.trM n f).length=n/\wid (Mx.trM n f)=n:=by
 obtain⟨k1,k2,k3,k4⟩:=wq hc;have htl:=Mx.gL n f;have htr:=Mx.LJ n f;rw[hl]at htr;have hwt:wid (Mx.trM n f)=n:=by
  obtain⟨l,h1,h2⟩:=A8 (m:=Mx.trM n f) aa;rw[<-h2];exact htr l (bj h1)
 refine⟨DW.KZ (fun j r _ hr=>by rw[hwt];exact htr r (bj hr)) aa fun r hr z hz=>?_,htl,hwt⟩;obtain⟨k,_,rfl⟩:=dw.1 hr;obtain⟨r,hr2,rfl⟩:=dw.1 hz;have:=k3 r hr2;have hb:=FZ (X:=1000000000000000) (row:=r) (fun x hx=>k4 r hr2 x hx) k;exact ln.2 aa
set_option maxRecDepth 20000
set_option maxHeartbeats 4000000
theorem GY(dim den:Int)(m f:Mx.Mat)(a b:Bool)(h:a=false\/dim=5\/b=false)(LT:Fn Tryz.prog 30 [dL dim m den] (.sc (.bool a)))(SM:Fn Tryz.prog 14 [dM f] (.sc (.bool b))):Fn Tryz.prog 6 [dL dim m den,dM f] (.sc (.bool true)):=by
 have AW:=xJ;cases a
 ·refine ba Tryz.func6 ai rfl rfl rfl fun X0=>?_;simp only[aO];refine mH ?_;refine yS ?_;refine bw ?_;refine CQ ?_;refine zs2 ?_;exact⟨_,Sh.refl,.one (.tmp 4) _ rfl (.tmp 4 rfl)⟩
 ·by_cases h5:dim=5
  ·have hd:decide (dim=5)=true:=au h5;refine ba Tryz.func6 ai rfl rfl rfl fun X0=>?_;simp only[aO];refine mH ?_;refine yS ?_;refine bw ?_;refine CQ ?_;refine zs2 ?_;exact⟨_,Sh.refl,.one (.tmp 4) _ rfl (.tmp 4 rfl)⟩
  ·have hd:decide (dim=5)=false:=aw h5;obtain rfl:b=false:=by simpa[h5]using h
   refine ba Tryz.func6 ai rfl rfl rfl fun X0=>?_;simp only[aO];refine mH ?_;refine yS ?_;refine bw ?_;refine CQ ?_;refine zs2 ?_;exact⟨_,Sh.refl,.one (.tmp 4) _ rfl (.tmp 4 rfl)⟩
theorem KI(dim den C:Int)(m f:Mx.Mat)(h5:dim≠5)(hC:C≠0)(LT:Fn Tryz.prog 30 [dL dim m den] (.sc (.bool true)))(SM:Fn Tryz.prog 14 [dM f] (.sc (.bool true)))(PD:Fn Tryz.prog 36 [dL dim m den,dM f] (.tp [dL 0 [] 0,zI C]))(RC:Fn Tryz.prog 32 [dL dim m den] (zI C)):Fn Tryz.prog 6 [dL dim m den,dM f] (.sc (.bool true)):=by
 have AW:=xJ;have SZ:=Md;have hd:decide (dim=5)=false:=aw h5;refine ba Tryz.func6 ai rfl rfl rfl fun X0=>?_;simp only[aO];refine mH ?_;refine yS ?_;refine bp ?_;refine Ql ?_;refine zs2 ?_;refine wK ?_;refine zs2 ?_;refine tL ?_;refine bw ?_;refine cO ?_;refine yf ?_;refine zs4 ?_;refine jW ?_;(first|(refine aLs rfl rfl rfl rfl ?_ ?_;(focus(apply bh;(conv=>lhs;whnf);(first|done|exact rfl|(apply bg;(first|(apply au;omega)|(apply aw;omega)|assumption|(simp;done)))))))|refine aLw rfl rfl rfl rfl cE zb34 ?_);refine C4 ?_;refine kv ?_;refine zs4 ?_;refine Rd ?_;refine kv ?_;refine cT ?_;exact⟨_,Sh.refl,.one (.tmp 4) _ rfl (.tmp 4 rfl)⟩
theorem pM(dim den n1 d1 C:Int)(m f R1:Mx.Mat)(h5:dim≠5)(hC:C≠0)(LT:Fn Tryz.prog 30 [dL dim m den] (.sc (.bool true)))(SM:Fn Tryz.prog 14 [dM f] (.sc (.bool true)))(PD:Fn Tryz.prog 36 [dL dim m den,dM f] (.tp [dL n1 R1 d1,zI C]))(RC:Fn Tryz.prog 32 [dL dim m den] (zI 0))(RD:Fn Tryz.prog 37 [dL dim m den,dM f] (.tp [dL n1 R1 d1,zI C]))(SA:Fn Tryz.prog 35 [dL n1 R1 d1,dL n1 R1 d1] (.sc (.bool true))):Fn Tryz.prog 6 [dL dim m den,dM f] (.sc (.bool true)):=by
 have AW:=xJ;have hd:decide (dim=5)=false:=aw h5;refine ba Tryz.func6 ai rfl rfl rfl fun X0=>?_;simp only[aO];refine Jf ?_;refine bw ?_;refine CQ ?_;refine zs2 ?_;exact⟨_,Sh.refl,.one (.tmp 4) _ rfl (.tmp 4 rfl)⟩
theorem KG(dim den n1 d1 n3 d3 C:Int)(m f g R1 R3:Mx.Mat)(h5:dim≠5)(hC:C=0\/C=8)(LT:Fn Tryz.prog 30 [dL dim m den] (.sc (.bool true)))(SM:Fn Tryz.prog 14 [dM f] (.sc (.bool true)))(PD:Fn Tryz.prog 36 [dL dim m den,dM f] (.tp [dL n1 R1 d1,zI 0]))(RC:Fn Tryz.prog 32 [dL dim m den] (zI 0))(RD:Fn Tryz.prog 37 [dL dim m den,dM f] (.tp [dL n1 R1 d1,zI 0]))(SA:Fn Tryz.prog 35 [dL n1 R1 d1,dL n1 R1 d1] (.sc (.bool true)))(TP:Fn Tryz.prog 38 [dM f] (dM g))(PB:Fn Tryz.prog 36 [dL n1 R1 d1,dM g] (.tp [dL n3 R3 d3,zI C]))(PN:Fn Tryz.prog 31 [dL dim m den] (.tp [dL n3 R3 d3,zI C]))(SB:Fn Tryz.prog 35 [dL n3 R3 d3,dL n3 R3 d3] (.sc (.bool true))):Fn Tryz.prog 6 [dL dim m den,dM f] (.sc (.bool true)):=by
 have AW:=xJ;have hd:decide (dim=5)=false:=aw h5;rcases hC with rfl|rfl
 ·refine ba Tryz.func6 ai rfl rfl rfl fun X0=>?_;simp only[aO];refine Jf ?_;refine bp ?_;refine Qk ?_;refine zs2 ?_;refine Qj ?_;refine zs2 ?_;refine Qi ?_;refine zs2 ?_;exact⟨_,Sh.refl,.one (.tmp 4) _ rfl (.tmp 4 rfl)⟩
 ·refine ba Tryz.func6 ai rfl rfl rfl fun X0=>?_;simp only[aO];refine Jf ?_;refine bp ?_;refine Qk ?_;refine zs2 ?_;refine Qj ?_;refine zs2 ?_;refine Qi ?_;refine zs2 ?_;exact⟨_,Sh.refl,.one (.tmp 4) _ rfl (.tmp 4 rfl)⟩
theorem Bp(n d:Int)(R:Mx.Mat)(h1:R.length<=1000000000)(h2:∀l∈R,l.length<=1000000000):Fn Tryz.prog 35 [dL n R d,dL n R d] (.sc (.bool true)):=by
 have:=Hl n n d d R R h1 h2;rwa[au rfl,au rfl,au rfl,Bool.and_self,Bool.and_self]at this
theorem KH(dim den:Int)(m f:List (List Int))(hd:I64 dim)(hd2:I64 den):Fn Tryz.prog 6 [dL dim m den,dM f] (.sc (.bool true)):=by
 have LT:=Tw dim den m;have SM:=Ou f;by_cases hs:lgt dim m=true/\dim≠5/\smL f=true
 ·obtain⟨hs,h5,hs2⟩:=hs;rw[hs]at LT;rw[hs2]at SM;obtain⟨b1,b2,b3⟩:=Vb hs;obtain⟨c1,c2⟩:=SV hs2;have RC:=OU dim den m aa;have FO:=Ht dim den m f hd hd2 aa (fun r hr=>by have:=b3 r hr;omega) aa (fun r hr=>by have:=c2 r hr;omega);by_cases hc:lck dim m den=0
  ·rw[hc]at RC;rw[Cq dim m den f hc]at FO;have CF:=Hm dim den m f aa;have SZ:=Bp 0 0 [] aK (fun l hl=>by cases hl);by_cases hf:fmc dim f=0
   ·rw[hf]at FO CF;obtain⟨k1,k2,k3⟩:=gZ hc;obtain⟨n,rfl⟩:∃n:Nat,dim=n:=⟨dim.toNat,by omega⟩;have hn:n<=4:=by omega
    have hR:=jn hc;have hff:chk f=0/\f.length=n/\wid f=n:=by
     unfold fmc at hf;split at hf
     ·next h=>exact absurd hf h
     ·next h=>
      split at hf
      ·next h2=>exact⟨Classical.not_not.1 h,by omega,by omega⟩
      ·cases hf
    obtain⟨hf0,hfl,hfw⟩:=hff;have hle:=Mx.nR_le hR den;have RD:=EW n den m n tO aa aa aa hR (tu hc) (Ad hc);have BS:=Ch hc aa;by_cases hfull:(nR n m den).length=n
    ·have h:gH n m f den:=⟨hc,hn,hf0,hfl,hfw,hfull⟩;have hfr:=h.frc;by_cases hx:Mx.D n (Mx.at' f)=0
     ·have WO:=Kf f n aa aa hfr h.fin;have h24:2^n<=2^4:=cH aa hn;have DF:=zx f n 50 hfl hfr aa (aH (cZ (50+1) h24) aa) (mC hf0);have WD:=Eu f aa (fun l hl=>by have:=hfr l hl;omega) (fun l hl z hz=>by have:=h.fin l hl z hz;unfold I64 at this;omega);have h54:(50+n)*n<=54*4:=cv aa hn;have DR:=As 50 n f hfl hfr (mC hf0) aa aa;have SF:=oS 0 (bZ (e:=0) aK aa);rw[hx]at DF DR;exact pM n den 0 0 10 m f [] h5 aa LT SM (O6 n den _ m f _ (by rw[hfull]) FO RD WO DF) RC (OO n den _ 0 m f _ (by rw[hfull];omega) CF BS WD DR SF) SZ
     ·have PD:=h.pd hx;have RU:=h.rd hx;have hDz:=h.nz hx;have hk:=h.mk4 hDz;have hrl:=hk.rlen;have hrr:=hk.rrc;have hd1:=(Mx.fo hk.rc hk.z0).2.2.2.2.2;by_cases hh:(nR n (duS n m f den) (duE n m f den)).all (fun l=>l.all (inb 1000000000000000))=true/\inb 1000000000000000 (duE n m f den/nG n (duS n m f den) (duE n m f den))=true
      ·have eh:hnd n (nR n (duS n m f den) (duE n m f den)) (duE n m f den/nG n (duS n m f den) (duE n m f den))= .tp [dL n (nR n (duS n m f den) (duE n m f den)) (duE n m f den/nG n (duS n m f den) (duE n m f den)),zI 0]:=ak hh;rw[eh]at PD RU;clear eh;have hnn1:=Mx.fo hk.rc hk.z0;have hlc1:lck n (nR n (duS n m f den) (duE n m f den)) (duE n m f den/nG n (duS n m f den) (duE n m f den))=0:=by
        have h3:=ln.1 hh.2;unfold lck;rw[ah aa,ah aa];exact zY fun l hl=>⟨by rw[hrr l hl],fun z hz=>du.1 (du.1 hh.1 l hl) z hz⟩
       obtain⟨t1,t2,t3⟩:=Sv hf0 hfl hfw h.n0;have hlen1:=(Mx.yJ h.n0 hfl h.norm.2.1 h.is hDz);have hfull1:(nR n (duS n m f den) (duE n m f den)).length=n:=by unfold nR;rw[cG];exact hlen1.2.2.2.2
       have ho:gH n (nR n (duS n m f den) (duE n m f den)) (Mx.trM n f) (duE n m f den/nG n (duS n m f den) (duE n m f den)):=⟨hlc1,hn,t1,t2,t3,by rw[hnn1.2.2.1];exact hfull1⟩;have hx1:Mx.D n (Mx.at' (Mx.trM n f))≠0:=by
        rw[Mx.ck n (Mx.at' (Mx.trM n f)) (fun i j=>Mx.at' f j i) fun i j hi hj=>Mx.pW f hi aa,<-Mx.px];exact hx
       have PB:=ho.pd hx1;have his:=ho.is;rw[hnn1.2.2.1,hnn1.2.1,Int.ediv_one]at his;have hdd:=Mx.G4 h.n0 hfl hfr hfull h.norm.1 h.norm.2.1 h.norm.2.2.1 h.norm.2.2.2 h.is hDz his;rw[hdd.2.2.1,hdd.2.2.2]at PB;have PN:=M6 n den m hc aa;obtain⟨n3,R3,d3,C,e3,l3,m3⟩:=FJ n (nR n m den) (den/nG n m den);have hC:C=0\/C=8:=by
        unfold hnd at e3;split at e3
        ·simp only[D.tp.injEq,List.cons.injEq,D.sc.injEq,Value.int.injEq]at e3;exact .inl e3.2.1.2.symm
        ·simp only[D.tp.injEq,List.cons.injEq,D.sc.injEq,Value.int.injEq]at e3;exact .inr e3.2.1.2.symm
       rw[e3]at PB PN;have SB:=Bp n3 d3 R3 aa (fun l hl=>by have:=h.norm.1 l (m3 l hl);omega);have SA:=Bp n (duE n m f den/nG n (duS n m f den) (duE n m f den)) (nR n (duS n m f den) (duE n m f den)) aa (fun l hl=>by have:=hrr l hl;omega);have TP:=Pn f n hfw aa aa hfr;exact KG n den n _ n3 d3 C m f _ _ R3 h5 hC LT SM PD RC RU SA TP PB PN SB
      ·have eh:hnd n (nR n (duS n m f den) (duE n m f den)) (duE n m f den/nG n (duS n m f den) (duE n m f den))= .tp [dL 0 [] 0,zI 8]:=ah hh;rw[eh]at PD RU;exact pM n den 0 0 8 m f [] h5 aa LT SM PD RC RU SZ
    ·exact pM n den 0 0 12 m f [] h5 aa LT SM (O7 n den _ m f _ aa FO RD) RC (OP n den _ m f _ aa CF BS) SZ
   ·exact pM dim den 0 0 (fmc dim f) m f [] h5 hf LT SM (EY dim den _ m f hf FO) RC (OT dim den _ m f hf CF) SZ
  ·have e:kj dim m den f=lck dim m den:=ak hc;rw[e]at FO;exact KI dim den _ m f h5 hc LT SM (EY dim den _ m f hc FO) RC
 ·refine GY dim den m f _ _ ?_ LT SM;by_cases h1:lgt dim m=true
  ·by_cases h2:dim=5
   ·exact .inr (.inl h2)
   ·refine .inr (.inr ?_)
    cases h3:smL f with
    |false=>rfl
    |true=>exact absurd ⟨h1,h2,h3⟩ hs
  ·exact .inl (by simpa using h1)
end DW
theorem Nb(v vf:Value)(dim den:Int)(m f:List (List Int))(hd:I64 dim)(hd2:I64 den)(w:World)(h:DW.AR (fun _=>False) w (DW.dL dim m den) v)(hf:DW.AR (fun _=>False) w (DW.dM f) vf):Calls Tryz.prog 6 #[v,vf] w fun e w'=>e= .returned (.bool true)/\Below w.heap.size w w':=by
 refine((DW.KH dim den m f hd hd2).2 (fun _=>False) w #[v,vf] (fun _ h=>h.elim) (by simp only[DW.ATp];exact⟨v,_,rfl,h,vf,_,rfl,hf,rfl⟩)).mono fun e w' ⟨u,h1,h2,h3⟩=>⟨?_,h3⟩;simp only[DW.AR]at h2;rw[h1,h2.1]
end
end Go.Proofs.YtcgjmdpcplhanaaGreat
