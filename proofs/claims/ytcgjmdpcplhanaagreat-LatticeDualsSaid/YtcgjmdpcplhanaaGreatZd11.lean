/- Lemmas for the law: E14 -/
import Derived.Test.YtcgjmdpcplhanaaGreatZd10
namespace Go.Proofs.YtcgjmdpcplhanaaGreat
section
theorem C6{p q:Prop}(h:q)(f:Wq q->p:=by(intro hW;((first|(first|(refine aHs rfl rfl rfl rfl rfl ?_ ?_;(focus(apply bh;(conv=>lhs;whnf);(first|done|exact rfl|(apply bg;(first|(apply au;omega)|(apply aw;omega)|assumption|(simp;done)))))))|refine qN rfl rfl rfl rfl rfl cE aj si aj aj ?_)|((try refine aY ?_);(first|(refine aLs rfl rfl rfl rfl ?_ ?_;(focus(apply bh;(conv=>lhs;whnf);(first|done|exact rfl|(apply bg;(first|(apply au;omega)|(apply aw;omega)|assumption|(simp;done)))))))|refine aLw rfl rfl rfl rfl cE si ?_))));exact hW.out)):p:=f ⟨h⟩
theorem Ro{p q:Prop}(h:q)(f:Wq q->p:=by(intro hW;((first|(first|(refine aHs rfl rfl rfl rfl rfl ?_ ?_;(focus(apply bh;(conv=>lhs;whnf);(first|done|exact rfl|(apply bg;(first|(apply au;omega)|(apply aw;omega)|assumption|(simp;done)))))))|refine qN rfl rfl rfl rfl rfl cE aj zb4 aj aj ?_)|((try refine aY ?_);(first|(refine aLs rfl rfl rfl rfl ?_ ?_;(focus(apply bh;(conv=>lhs;whnf);(first|done|exact rfl|(apply bg;(first|(apply au;omega)|(apply aw;omega)|assumption|(simp;done)))))))|refine aLw rfl rfl rfl rfl cE zb4 ?_))));exact hW.out)):p:=f ⟨h⟩
theorem CP{p q:Prop}(h:q)(f:Wq q->p:=by(intro hW;(refine C6 ?_;refine C6 ?_;refine Ro ?_;refine I5 ?_;refine C6 ?_;refine Ro ?_;refine I5 ?_);exact hW.out)):p:=f ⟨h⟩
theorem zb75{p:Prop}(h:p:=by first|(apply iU;assumption)|exact rfl):p:=h
theorem JV{p:Prop}(h:p:=by first|omega|(simp;omega)):p:=h
theorem qU{p q:Prop}(h:q)(f:Wq q->p:=by(intro hW;((first|refine aN1 rfl rfl rfl zb4 ?_|refine BX rfl rfl rfl rfl cD cD bf ai ai JV zb75 ?_|refine mn rfl rfl rfl zb4 ?_));exact hW.out)):p:=f ⟨h⟩
theorem Rp{p q:Prop}(h:q)(f:Wq q->p:=by(intro hW;((first|(apply aB 21;(focus kernel_rfl);(decide+kernel))|(apply aB 20;(focus kernel_rfl);(decide+kernel))|(apply aB 19;(focus kernel_rfl);(decide+kernel))|(apply aB 18;(focus kernel_rfl);(decide+kernel))|(apply aB 17;(focus kernel_rfl);(decide+kernel))|(apply aB 16;(focus kernel_rfl);(decide+kernel))|(apply aB 15;(focus kernel_rfl);(decide+kernel))|(apply aB 14;(focus kernel_rfl);(decide+kernel)));simp only[dJ,dv,eC,cY]);exact hW.out)):p:=f ⟨h⟩
theorem ij{p q:Prop}(h:q)(f:Wq q->p:=by(intro hW;((first|refine aN1 rfl rfl rfl si ?_|refine mn rfl rfl rfl si ?_));exact hW.out)):p:=f ⟨h⟩
theorem tM{p q:Prop}(h:q)(f:Wq q->p:=by(intro hW;(refine wz [] ai (by exact vY) ?_);exact hW.out)):p:=f ⟨h⟩
theorem Ju{p q:Prop}(h:q)(f:Wq q->p:=by(intro hW;(refine cO ?_;refine mJ ?_;refine fM ?_;refine zs8 ?_;refine sb ?_;refine I8 ?_;refine kv ?_;refine aX ?_);exact hW.out)):p:=f ⟨h⟩
theorem mL{p q:Prop}(h:q)(f:Wq q->p:=by(intro hW;(refine Vz ai ?_);exact hW.out)):p:=f ⟨h⟩
theorem iH{p q:Prop}(h:q)(f:Wq q->p:=by(intro hW;((first|refine aN1 rfl rfl rfl zb1 ?_|refine mn rfl rfl rfl zb1 ?_));exact hW.out)):p:=f ⟨h⟩
theorem aI{p q:Prop}(h:q)(f:Wq q->p:=by(intro hW;(first|refine GG ?_|refine IL ?_|refine IM ?_|refine NU ?_|((simp only[nx,inB,ite_true,ite_false,↓reduceIte,Nat.reduceEqDiff,reduceCtorEq]);apply_assumption-exfalso));exact hW.out)):p:=f ⟨h⟩
theorem pB{p q:Prop}(h:q)(f:Wq q->p:=by(intro hW;((first|refine aN1 rfl rfl rfl zb46 ?_|refine mn rfl rfl rfl zb46 ?_));exact hW.out)):p:=f ⟨h⟩
theorem wO{p q:Prop}(h:q)(f:Wq q->p:=by(intro hW;((first|refine aN1 rfl rfl rfl vd ?_|refine mn rfl rfl rfl vd ?_));exact hW.out)):p:=f ⟨h⟩
theorem yR{p q:Prop}(h:q)(f:Wq q->p:=by(intro hW;(refine ij ?_;refine ij ?_;refine qU ?_;refine iH ?_;refine ij ?_);exact hW.out)):p:=f ⟨h⟩
theorem Qg{p q:Prop}(h:q)(f:Wq q->p:=by(intro hW;(refine yR ?_;refine qU ?_;refine iH ?_;refine yR ?_;refine qU ?_;refine iH ?_;refine wO ?_;refine ij ?_;refine pB ?_;refine pB ?_;refine pB ?_);exact hW.out)):p:=f ⟨h⟩
theorem zb30{p:Prop}(h:p:=by(apply oe;(exact rfl);(focus((apply aE;(conv=>lhs;whnf);(first|done|exact rfl))));(focus((apply aE;(conv=>lhs;whnf);(first|done|exact rfl))));(exact rfl);(exact rfl);(focus((first|exact fail)));(exact rfl))):p:=h
theorem oA{p q:Prop}(h:q)(f:Wq q->p:=by(intro hW;((refine xN (i:=0) rfl rfl rfl cD cD bf aj sf aj dT aj ai qf ?_));exact hW.out)):p:=f ⟨h⟩
theorem Rn{p q:Prop}(h:q)(f:Wq q->p:=by(intro hW;((first|(first|(refine aHs rfl rfl rfl rfl rfl ?_ ?_;(focus(apply bh;(conv=>lhs;whnf);(first|done|exact rfl|(apply bg;(first|(apply au;omega)|(apply aw;omega)|assumption|(simp;done)))))))|refine qN rfl rfl rfl rfl rfl cE aj zb39 aj aj ?_)|((try refine aY ?_);(first|(refine aLs rfl rfl rfl rfl ?_ ?_;(focus(apply bh;(conv=>lhs;whnf);(first|done|exact rfl|(apply bg;(first|(apply au;omega)|(apply aw;omega)|assumption|(simp;done)))))))|refine aLw rfl rfl rfl rfl cE zb39 ?_))));exact hW.out)):p:=f ⟨h⟩
theorem CX{p q:Prop}(h:q)(f:Wq q->p:=by(intro hW;(refine cn ?_;refine rZ ?_;refine aX ?_);exact hW.out)):p:=f ⟨h⟩
theorem D0{p:Prop}(h:p:=by(apply BM;(exact rfl);(focus((apply aE;(conv=>lhs;whnf);(first|done|exact rfl))));(focus((apply aE;(conv=>lhs;whnf);(first|done|exact rfl))));(focus((apply aE;(conv=>lhs;whnf);(first|done|exact rfl))));(exact rfl);(exact rfl);(exact rfl);(assumption);(exact rfl))):p:=h
theorem JU{p q:Prop}(h:q)(f:Wq q->p:=by(intro hW;((first|refine eJ rfl rfl rfl aj D0 aj aj ?_|((try refine aY ?_);refine aL1 rfl rfl rfl D0 ?_)));exact hW.out)):p:=f ⟨h⟩
theorem zs111{p q:Prop}(h:q)(f:Wq q->p:=by(intro hW;(((try refine aY ?_);(refine qe (i:=j) rfl rfl rfl cD cD bf aj sf aj dT aj ai qf ?_)));exact hW.out)):p:=f ⟨h⟩
theorem QH{p q:Prop}(h:q)(f:Wq q->p:=by(intro hW;(refine zs93 ?_;refine eV ?_;refine eV ?_;refine jy ?_;refine jy ?_;refine fR ?_;refine JU ?_;refine zs28 ?_;refine zs111 ?_;refine jg ?_);exact hW.out)):p:=f ⟨h⟩
theorem Jt{p q:Prop}(h:q)(f:Wq q->p:=by(intro hW;(refine cO ?_;refine zs8 ?_;refine pg ?_;refine AU ?_;refine cK ?_);exact hW.out)):p:=f ⟨h⟩
theorem JT{p q:Prop}(h:q)(f:Wq q->p:=by(intro hW;((first|(first|(refine aHs rfl rfl rfl rfl rfl ?_ ?_;(focus(apply bh;(conv=>lhs;whnf);(first|done|exact rfl|(apply bg;(first|(apply au;omega)|(apply aw;omega)|assumption|(simp;done)))))))|refine qN rfl rfl rfl rfl rfl cE aj vb aj aj ?_)|((try refine aY ?_);(first|(refine aLs rfl rfl rfl rfl ?_ ?_;(focus(apply bh;(conv=>lhs;whnf);(first|done|exact rfl|(apply bg;(first|(apply au;omega)|(apply aw;omega)|assumption|(simp;done)))))))|refine aLw rfl rfl rfl rfl cE vb ?_))));exact hW.out)):p:=f ⟨h⟩
theorem QF{p q:Prop}(h:q)(f:Wq q->p:=by(intro hW;(refine Rp ?_;refine eV ?_;refine zs82 ?_;refine eV ?_;refine CP ?_;refine JT ?_;refine CP ?_;refine JT ?_;refine zs85 ?_;refine zs86 ?_;refine I4 ?_;refine jg ?_);exact hW.out)):p:=f ⟨h⟩
theorem QG{p q:Prop}(h:q)(f:Wq q->p:=by(intro hW;(refine cO ?_;refine wG ?_;refine zs7 ?_;refine aX ?_);exact hW.out)):p:=f ⟨h⟩
theorem wI{p q:Prop}(h:q)(f:Wq q->p:=by(intro hW;(refine cO ?_;refine wG ?_;refine tF ?_;refine aX ?_);exact hW.out)):p:=f ⟨h⟩
theorem zb12{p:Prop}(h:p:=by(apply(Vp (zv:=(.agg #[.bool false,.slice none 0 0])) (d0:=(.nm 0)) (wd:=2));(exact rfl);(focus((apply aE;(conv=>lhs;whnf);(first|done|exact rfl))));(focus((apply aE;(conv=>lhs;whnf);(first|done|exact rfl))));(kernel_rfl);(kernel_rfl);(exact rfl);(exact rfl);(exact rfl);(exact rfl);(exact rfl);(omega);(focus(first|exact mT _|exact rfl)))):p:=h
theorem zb24{p:Prop}(h:p:=by(apply uA;(focus((apply uA;(exact vY);(focus((repeat(first|exact uy|(apply rK;(exact rfl))|(apply uz;(exact rfl)))))))));(focus((repeat(first|exact uy|(apply rK;(exact rfl))|(apply uz;(exact rfl)))))))):p:=h
theorem wN{p q:Prop}(h:q)(f:Wq q->p:=by(intro hW;((first|refine aN1 rfl rfl rfl DU ?_|refine mn rfl rfl rfl DU ?_));exact hW.out)):p:=f ⟨h⟩
end
section
open Go.RowKit
namespace DW
def atD:Option Nat->D
 |none=>zI (-1)
 |some t=>zI (t:Nat)
theorem gu{M:Mx.Mat}{i:Nat}(h:i<M.length):M[i]?=some (Mx.rw M i):=by
 unfold Mx.rw;rw[aG,aV h];rfl
theorem ny{M:Mx.Mat}{n i c:Nat}(hM:Mx.Rc n M)(h:i<M.length)(hc:c<n):(Mx.rw M i)[c]?=some (Mx.at' M i c):=by
 unfold Mx.at';rw[aG,aV (by rw[hM.rw h];exact hc)];rfl
theorem Vh{z:Int}{e k:Nat}(h:z.natAbs<=2^e)(he:e<16*k):(hd z.natAbs).length<=k:=jt (by
 have h1:(65536:Nat)^k=2^(16*k):=by rw[show(65536:Nat)=2^16 by rfl,<-Nat.pow_mul]
 rw[h1];exact gi h (yZ aa he))
theorem ue(z:Int):sgn z=0↔z=0:=by unfold sgn;split<;>(try split)<;>omega
theorem tw{z:Int}{e:Nat}(h:z.natAbs<=2^e)(he:e<=3000000000):(hd z.natAbs).length<=199999999:=Vh h aa
theorem bZ{z:Int}{e:Nat}(h:z.natAbs<=2^e)(he:e<=3000000000):Hf z:=aH (tw h he) av
theorem EA{N:Mx.Mat}{n i r c E:Nat}(hN:Mx.Rc n N)(hi:i<N.length)(hr:r<N.length)(hn:n<=1000)(hb:Mx.Bd (2^E) N)(hE:2*E<=3000000000):Fn Tryz.prog 149 [dZ (Mx.rw N i),dZ (Mx.rw N r),.nm (Mx.at' N i c/Mx.at' N r c)] (dZ (Mx.fK (Mx.rw N r) c (Mx.rw N i))):=by
 have hm:∀{i:Nat} {x:Int},x∈Mx.rw N i->x.natAbs<=2^E:=fun {i x} hx=>by
  obtain⟨j,hj,e⟩:=kZ hx;have:=hb i j;unfold Mx.at' at this;rw[aG,aV hj,e]at this;exact this
 have hq:(Mx.at' N i c/Mx.at' N r c).natAbs<=2^E:=aH (Mx.mB _ _) (hb i c);refine LM (Mx.rw N i) (Mx.rw N r) _ (by rw[hN.rw hi,hN.rw hr]) (by rw[hN.rw hi];omega) (fun x hx=>bZ (hm hx) aa) (fun y hy=>⟨bZ (hm hy) aa,bZ (e:=E+E) ?_ aa⟩) (bZ hq aa);rw[en,fC];exact cv hq (hm hy)
theorem SE(N:Mx.Mat)(r t:Nat):((N.map dZ).set r (dZ (Mx.rw N t))).set t (dZ (Mx.rw N r))=(Mx.swp N r t).map dZ:=by
 unfold Mx.swp;rw[qi,qi]
set_option maxRecDepth 20000
set_option maxHeartbeats 2000000
theorem Nt(m:Mx.Mat)(n cN e p:Nat)(hR:Mx.Rc n m)(hc:cN<=n)(hn:n<=1000)(hm:m.length<=1000)(he:6<=e)(hp:m.length<=p\/cN<=p)(hf:2*(e*11^p)<=3000000000)(hb:Mx.Bd (2^e) m):
  Fn Tryz.prog 78 [dW m,zI cN] (dW (Mx.red cN 0 (0,m)).2):=by
 obtain⟨T,hT⟩:∃T,T=Mx.red cN 0 (0,m):=⟨_,rfl⟩;rw[<-hT];obtain⟨L,hL⟩:∃L,L=m.length:=⟨_,rfl⟩;rw[<-hL]at hp;refine ba Tryz.func78 ai rfl rfl rfl fun X0=>?_;simp only[aO]
 (repeat(first|refine gk fun K hK=>?_|refine aI ?_));refine C3 ?_;(repeat(first|refine gk fun K hK=>?_|refine aI ?_));refine gar ?_;(refine IS (k:=19) (wd:=1) (T:=Tryz.prog.elem 27) rfl rfl rfl rfl ai ai aj aj cu ?_);refine zs4 ?_;(refine pe rfl rfl rfl rfl cD cD bf aj vc ai ai (by(simp only[bC,iI];omega)) cu va ?_);refine cK ?_;(repeat(first|refine gk fun K hK=>?_|refine aI ?_));refine yX ?_;(repeat(first|refine gk fun K hK=>?_|refine aI ?_));refine yX ?_;(repeat(first|refine gk fun K hK=>?_|refine aI ?_))
 (refine ay (aq (sl':=[(1,zI cN),(5, .own 19),(6,zI 0),(7,zI 0)]) (ow':=[(19,⟨113,1,m.map dZ⟩)]) az aD) ?_)
 refine bc (fun k s=>∃r c M,k=cN-c/\c<=cN/\Mx.Rc n M/\M.length=L/\(r<=L/\r<=c)/\Mx.red (cN-c) c (r,M)=T/\Mx.Bd (2^(e*11^r)) M/\s=⟨[(1,zI cN),(5, .own 19),(6,zI (r:Nat)),(7,zI (c:Nat))],[(19,⟨113,1,M.map dZ⟩)]⟩) (m:=cN) ⟨0,0,m,rfl,aQ _,hR,hL.symm,⟨aQ _,aQ _⟩,hT.symm,by rw[sR,eX];exact hb,rfl⟩ fun k s hs=>?_;clear hT hb;obtain⟨r,c,M,rfl,hcN,hM,hML,hr,hT,hb,rfl⟩:=hs;by_cases hgo:c<cN/\r<L
 ·obtain⟨hcc,hrr⟩:=hgo;have hd1:decide ((c:Int)<(cN:Int))=true:=au aa;have hcn:c<n:=by omega
  (repeat(first|refine gk fun K hK=>?_|refine aI ?_));refine Ju ?_;(repeat(first|refine gk fun K hK=>?_|refine aI ?_))
  refine gP ?_
  (repeat(first|refine gk fun K hK=>?_|refine aI ?_))
  obtain⟨X,hX⟩:∃X,X=2^(e*11^r):=⟨_,rfl⟩;obtain⟨K0,hK0⟩:∃K0,K0=6*X^5:=⟨_,rfl⟩;obtain⟨E,hE⟩:∃E,E=e*11^(r+1):=⟨_,rfl⟩;obtain⟨Mc,hMc⟩:∃Mc,Mc=Mx.fi r c M:=⟨_,rfl⟩;have hEf:2*E<=3000000000:=aH (dR 2 (by rw[hE];exact dR e (cH aa aa))) hf;have hX1:1<=X:=by rw[hX];exact eH aa
  have hnb:K0*(K0+1)<=2^E:=by
   have h1:6<=e*11^r:=aH he (jI _ (eH aa));have h2:=Mx.zU h1;rw[Mx.e11,<-hX,<-hE]at h2;rw[hK0];exact h2
  have hKE:K0<=2^E:=aH (jI _ aa) hnb;rw[<-hX]at hb;have hJ:Mx.Jn K0 r c M:= .inl ⟨X,hX1,hb,by rw[hK0];exact af _⟩;have hcl:=(Mx.uO (r:=r) (c:=c) hM).1.re;have hMcR:Mx.Rc n Mc:=by rw[hMc];exact hcl.rc hM
  have hMcL:Mc.length=L:=by rw[hMc,hcl.len];exact hML
  have hMcB:Mx.Bd K0 Mc:=by rw[hMc];exact Mx.BO hM hJ
  have hB0:Mx.at' Mc r c=0->Mx.Bd (2^(e*11^r)) Mc:=fun h0=>by
   rw[hMc]at h0⊢;rw[(Mx.NC (r:=r) (c:=c) hM).resolve_right (fun hh=>hh h0),<-hX];exact hb
  clear hcl hX hK0 hX1;have TAIL:K ⟨[(1,zI cN),(5, .own 19),(6,zI (r:Nat)),(7,zI (c:Nat))],[(19,⟨113,1,Mc.map dZ⟩)]⟩:=by
   apply hK;have hrM:r<Mc.length:=by omega
   have hgr:=gu hrM;have hxr:=ny hMcR hrM hcn;have SX:=oS (Mx.at' Mc r c) (bZ (aH (hMcB r c) hKE) aa);have gx:=ue (Mx.at' Mc r c);have gn:=xq (Mx.at' Mc r c);have hT1:Mx.red (cN-(c+1)) (c+1) (Mx.step r c M)=T:=by
    rw[<-hT,show cN-c=cN-(c+1)+1 by omega,Mx.EV aa]
   by_cases h0:Mx.at' Mc r c=0
   ·have eS : Mx.step r c M = (r, Mc) := by
     unfold Mx.step;simp only[];rw[<-hMc,ak h0]
    rw[eS]at hT1;have hB2:=hB0 h0
    (repeat(first|refine gk fun K hK=>?_|refine aI ?_));refine wI ?_;(repeat(first|refine gk fun K hK=>?_|refine aI ?_))
    refine gP ?_
    (repeat(first|refine gk fun K hK=>?_|refine aI ?_));refine gy ?_;(repeat(first|refine gk fun K hK=>?_|refine aI ?_))
    simp only[nx,inB];exact⟨cN-(c+1),_,by omega,(aq (sl':=[(1,zI cN),(5, .own 19),(6,zI (r:Nat)),(7,zI ((c+1:Nat):Int))]) (ow':=[(19,⟨113,1,Mc.map dZ⟩)]) az aD),r,c+1,Mc,rfl,by omega,hMcR,hMcL,⟨hr.1,by omega⟩,hT1,hB2,rfl⟩
   ·have eS : Mx.step r c M = (r + 1, Mx.nC r c (Mx.dX r c Mc)) := by
     unfold Mx.step;simp only[];rw[<-hMc,ah h0]
    rw[eS]at hT1;unfold Mx.nC at hT1;have hSB:=Mx.Bm (c:=c) hMcB hrM;have hSre:=Mx.xp (c:=c) hrM;have hSR:=hSre.rc hMcR;have hSL:(Mx.dX r c Mc).length=L:=by rw[hSre.len];exact hMcL
    have hAB:∀k,k<=(Mx.dX r c Mc).length->Mx.Bd (2^E) (Mx.br r c 0 (Mx.dX r c Mc) k):=fun k hk=>(Mx.GF hSR aa hSB hk).mono hnb;have hpiv:Mx.at' (Mx.dX r c Mc) r c≠0:=by
     unfold Mx.dX;split
     ·rw[Mx.oZ _ _ _ _ _ hrM,ak rfl,Mx.qv];show-(Mx.at' Mc r c)≠0;omega
     ·exact h0
    clear hSre hSB
    (repeat(first|refine gk fun K hK=>?_|refine aI ?_));refine wI ?_;(repeat(first|refine gk fun K hK=>?_|refine aI ?_))
    refine gQ ?_
    (repeat refine aI ?_)
    refine gk fun K2 hK2=>?_;have TAIL2:∀s,Sh X0 Tryz.f78.ntmps s ⟨[(1,zI cN),(5, .own 19),(6,zI (r:Nat)),(7,zI (c:Nat))],[(19,⟨113,1,(Mx.dX r c Mc).map dZ⟩)]⟩->K2 s:=by
     intro s hs;apply hK2;refine ay hs ?_;obtain⟨S,hS⟩:∃S,S=Mx.dX r c Mc:=⟨_,rfl⟩;rw[<-hS]at hT1 hSR hSL hAB hpiv;rw[<-hS];clear hS hK2 hgr hxr SX gx gn h0 eS
     (repeat(first|refine gk fun K hK=>?_|refine aI ?_));refine yX ?_;(repeat(first|refine gk fun K hK=>?_|refine aI ?_))
     (refine ay (aq (sl':=[(1,zI cN),(5, .own 19),(6,zI (r:Nat)),(7,zI (c:Nat)),(15,zI 0)]) (ow':=[(19,⟨113,1,S.map dZ⟩)]) az aD) ?_)
     refine bc (fun k s=>∃j,j<=r/\k=r-j/\s=⟨[(1,zI cN),(5, .own 19),(6,zI (r:Nat)),(7,zI (c:Nat)),(15,zI (j:Nat))],[(19,⟨113,1,(Mx.br r c 0 S j).map dZ⟩)]⟩) (m:=r) ⟨0,aQ _,rfl,rfl⟩ fun k s hs=>?_;obtain⟨j,hjr,rfl,rfl⟩:=hs;have hLN:(Mx.br r c 0 S j).length=L:=by rw[Mx.eK];exact hSL
     have hBN:=hAB j aa;have hRN:Mx.Rc n (Mx.br r c 0 S j):=Mx.oa hSR aa j aa;by_cases hj:j<r
     ·have HNX : Mx.br r c 0 S (j + 1) = (Mx.br r c 0 S j).set j (Mx.fK (Mx.rw (Mx.br r c 0 S j) r) c (Mx.rw (Mx.br r c 0 S j) j)) := by
       have:=Mx.nq (r:=r) (c:=c) (s:=0) (k:=j) (M:=S) aa aa;rw[bn]at this;exact this
      have hpn:Mx.at' (Mx.br r c 0 S j) r c≠0:=by
       unfold Mx.at';rw[Mx.fL r c 0 S j aa r,ah aa];exact hpiv
      obtain⟨A,hA⟩:∃A,A=Mx.br r c 0 S j:=⟨_,rfl⟩;rw[<-hA]at HNX hpn hBN hRN hLN;rw[<-hA];clear hA hAB hT1;have hgj:=gu (M:=A) (i:=j) aa;have hgr:=gu (M:=A) (i:=r) aa;have hxj:=ny hRN (show j<A.length by omega) hcn;have hxr:=ny hRN (show r<A.length by omega) hcn;have DM:=yK (Mx.at' A j c) (Mx.at' A r c) (bZ (hBN j c) aa) (bZ (hBN r c) aa) hpn;have TK:=EA (c:=c) hRN (show j<A.length by omega) (show r<A.length by omega) hn hBN hEf;have hjj:(j:Int)=((j:Nat):Int):=rfl
      (repeat(first|refine gk fun K hK=>?_|refine aI ?_));refine ox ?_;(repeat(first|refine gk fun K hK=>?_|refine aI ?_))
      refine gP ?_
      (repeat(first|refine gk fun K hK=>?_|refine aI ?_));(refine wz [16,17] ai zb24 ?_);refine Qg ?_;(refine qd (k:=16) (z:=(.agg #[.bool false, .slice none 0 0])) (d:=(.nm 0)) rfl rfl rfl rfl rfl ai aj aj dT aj aj ?_);(refine qd (k:=17) (z:=(.agg #[.bool false, .slice none 0 0])) (d:=(.nm 0)) rfl rfl rfl rfl rfl ai aj aj dT aj aj ?_);refine oA ?_;refine oA ?_;refine wN ?_;refine mL ?_;(repeat(first|refine gk fun K hK=>?_|refine aI ?_))
      (refine ay (aq (sl':=[(1,zI cN),(5, .own 19),(6,zI (r:Nat)),(7,zI (c:Nat)),(15,zI (j:Nat)),(16, .opt 16 0)]) (ow':=[(16,⟨62,2,[.nm (Mx.at' A j c/Mx.at' A r c)]⟩),(19,⟨113,1,A.map dZ⟩)]) az aD) ?_)
      (repeat(first|refine gk fun K hK=>?_|refine aI ?_));refine QH ?_;(repeat(first|refine gk fun K hK=>?_|refine aI ?_));refine gy ?_;(repeat(first|refine gk fun K hK=>?_|refine aI ?_))
      simp only[nx,inB];exact⟨r-(j+1),_,by omega,(aq (sl':=[(1,zI cN),(5, .own 19),(6,zI (r:Nat)),(7,zI (c:Nat)),(15,zI ((j+1:Nat):Int))]) (ow':=[(19,⟨113,1,(A.map dZ).set j (dZ (Mx.fK (Mx.rw A r) c (Mx.rw A j)))⟩)]) az aD),j+1,by omega,rfl,by rw[HNX,qi]⟩
     ·obtain rfl:j=r:=by omega
      rw[hE]at hBN
      (repeat(first|refine gk fun K hK=>?_|refine aI ?_));refine ox ?_;(repeat(first|refine gk fun K hK=>?_|refine aI ?_))
      refine gQ ?_
      (repeat(first|refine gk fun K hK=>?_|refine aI ?_));refine gy ?_;(repeat(first|refine gk fun K hK=>?_|refine aI ?_));refine gy ?_;(repeat(first|refine gk fun K hK=>?_|refine aI ?_))
      simp only[nx,inB];exact⟨cN-(c+1),_,by omega,(aq (sl':=[(1,zI cN),(5, .own 19),(6,zI ((j+1:Nat):Int)),(7,zI ((c+1:Nat):Int))]) (ow':=[(19,⟨113,1,(Mx.br j c 0 S j).map dZ⟩)]) az aD),j+1,c+1,_,rfl,by omega,hRN,hLN,⟨by omega,by omega⟩,hT1,hBN,rfl⟩
    clear hK2;by_cases hneg:Mx.at' Mc r c<0
    ·have hgs:=gn.2 hneg;have eG:Mx.dX r c Mc=Mc.set r (Mx.neg (Mx.rw Mc r)):=by unfold Mx.dX;rw[ak hneg]
     rw[eG,qi]at TAIL2;have hrl:(Mx.rw Mc r).length=n:=hMcR.rw hrM;have hin:∀x∈Mx.rw Mc r,x.natAbs<=2^E:=fun x hx=>by
      obtain⟨j,hj,e⟩:=kZ hx;have:=hMcB r j;unfold Mx.at' at this;rw[aG,aV hj,e]at this;exact aH this hKE
     have hf1:Hf 1:=by unfold Hf;rw[show(1:Int).natAbs=1 from rfl,Ai];decide
     have hf0:Hf 0:=by unfold Hf;rw[show(0:Int).natAbs=0 from rfl,(nk 0).2 rfl];decide
     have TK:=LM (List.replicate (Mx.rw Mc r).length 0) (Mx.rw Mc r) 1 aK (by rw[qY];omega) (fun x hx=>by rw[List.eq_of_mem_replicate hx];exact hf0) (fun y hy=>⟨bZ (hin y hy) aa,by rw[cW];exact bZ (hin y hy) aa⟩) hf1;have eN:Mx.ib (-1) (List.replicate (Mx.rw Mc r).length 0) (Mx.rw Mc r)=Mx.neg (Mx.rw Mc r):=by
      refine Mx.te (by rw[Mx.mj _ _ _ aK,qY,Mx.nT]) fun j=>?_;rw[Mx.og _ _ _ _ aK,Mx.qv,aG,qX];split<;>simp<;>omega
     rw[eN]at TK;unfold dZ at TK;rw[En]at TK;have OF:=BD 1 aa;have hrr':(r:Int)=((r:Nat):Int):=rfl
     (repeat(first|refine gk fun K hK=>?_|refine aI ?_));refine QG ?_;(repeat(first|refine gk fun K hK=>?_|refine aI ?_))
     refine gP ?_
     (repeat(first|refine gk fun K hK=>?_|refine aI ?_));((first|(apply aB 15;(focus kernel_rfl);(decide+kernel))|(apply aB 14;(focus kernel_rfl);(decide+kernel))|(apply aB 13;(focus kernel_rfl);(decide+kernel))|(apply aB 12;(focus kernel_rfl);(decide+kernel))|(apply aB 11;(focus kernel_rfl);(decide+kernel))|(apply aB 10;(focus kernel_rfl);(decide+kernel))|(apply aB 9;(focus kernel_rfl);(decide+kernel))|(apply aB 8;(focus kernel_rfl);(decide+kernel)));simp only[dJ,dv,eC,cY]);refine eV ?_;refine eV ?_;refine jy ?_;refine Dt ?_;(first|refine eJ rfl rfl rfl aj zb12 aj aj ?_|((try refine aY ?_);refine aL1 rfl rfl rfl zb12 ?_));refine jy ?_;(first|refine eJ rfl rfl rfl aj DZ aj aj ?_|((try refine aY ?_);refine aL1 rfl rfl rfl DZ ?_));refine JU ?_;refine zs28 ?_;((try refine aY ?_);(refine qe (i:=r) rfl rfl rfl cD cD bf aj sf aj dT aj ai qf ?_));refine jg ?_;(repeat(first|refine gk fun K hK=>?_|refine aI ?_))
     exact(aq (sl':=[(1,zI cN),(5, .own 19),(6,zI (r:Nat)),(7,zI (c:Nat))]) (ow':=[(19,⟨113,1,(Mc.map dZ).set r (dZ (Mx.neg (Mx.rw Mc r)))⟩)]) az aD)
    ·have hgs:¬sgn (Mx.at' Mc r c)<0:=fun h=>hneg (gn.1 h);have eG:Mx.dX r c Mc=Mc:=by unfold Mx.dX;rw[ah hneg]
     rw[eG]at TAIL2
     (repeat(first|refine gk fun K hK=>?_|refine aI ?_));refine QG ?_;(repeat(first|refine gk fun K hK=>?_|refine aI ?_))
     refine gQ ?_
     (repeat(first|refine gk fun K hK=>?_|refine aI ?_))
     exact(aq (sl':=[(1,zI cN),(5, .own 19),(6,zI (r:Nat)),(7,zI (c:Nat))]) (ow':=[(19,⟨113,1,Mc.map dZ⟩)]) az aD)
  clear hK;have hred:0<cN-c:=by omega
  (refine ay (aq (sl':=[(1,zI cN),(5, .own 19),(6,zI (r:Nat)),(7,zI (c:Nat))]) (ow':=[(19,⟨113,1,M.map dZ⟩)]) az aD) ?_)
  refine bc (fun k s=>∃N,k=Mx.kI r c N/\Mx.Rc n N/\N.length=L/\Mx.Jn K0 r c N/\Mx.fi r c N=Mc/\s=⟨[(1,zI cN),(5, .own 19),(6,zI (r:Nat)),(7,zI (c:Nat))],[(19,⟨113,1,N.map dZ⟩)]⟩) (m:=Mx.kI r c M) ⟨M,rfl,hM,hML,hJ,hMc.symm,rfl⟩ fun k s hs=>?_;clear hJ hb hT hMc hML hM;obtain⟨N,rfl,hN,hNL,hJ,hNc,rfl⟩:=hs;have hNB:∀i,(Mx.at' N i c).natAbs<=2^E:=fun i=>aH (Mx.uB hJ i c) hKE
  (repeat(first|refine gk fun K hK=>?_|refine aI ?_));refine JA ?_;(repeat(first|refine gk fun K hK=>?_|refine aI ?_));refine tK ?_;(repeat(first|refine gk fun K hK=>?_|refine aI ?_))
  (refine ay (aq (sl':=[(1,zI cN),(5, .own 19),(6,zI (r:Nat)),(7,zI (c:Nat)),(8,zI (-1)),(9, .sc (.bool false)),(10,zI (r:Nat))]) (ow':=[(19,⟨113,1,N.map dZ⟩)]) az aD) ?_)
  refine bc (fun k s=>∃i,r<=i/\i<=L/\k=L-i/\s=⟨[(1,zI cN),(5, .own 19),(6,zI (r:Nat)),(7,zI (c:Nat)),(8,atD (Mx.scan c r N (i-r)).1),(9, .sc (.bool (decide (2<=(Mx.scan c r N (i-r)).2)))),(10,zI (i:Nat))],[(19,⟨113,1,N.map dZ⟩)]⟩) (m:=L-r) ⟨r,af _,by omega,rfl,by rw[dH];rfl⟩ fun k s hs=>?_;obtain⟨i,hri,hiL,rfl,rfl⟩:=hs;by_cases hi:i<L
  ·have hgi:=gu (M:=N) (i:=i) aa;have hxi:=ny hN (show i<N.length by omega) hcn;have SX:=oS (Mx.at' N i c) (bZ (hNB i) aa);have gx:=ue (Mx.at' N i c);by_cases h0:Mx.at' N i c=0
   ·have HZ:=Mx.Ma hri h0;rw[<-HZ];obtain⟨d8,h8⟩:∃d,d=atD (Mx.scan c r N (i+1-r)).1:=⟨_,rfl⟩;rw[<-h8]
    (repeat(first|refine gk fun K hK=>?_|refine aI ?_));refine mK ?_;(repeat(first|refine gk fun K hK=>?_|refine aI ?_))
    refine gP ?_
    (repeat(first|refine gk fun K hK=>?_|refine aI ?_));refine wI ?_;(repeat(first|refine gk fun K hK=>?_|refine aI ?_))
    refine gP ?_
    (repeat(first|refine gk fun K hK=>?_|refine aI ?_));refine gy ?_;(repeat(first|refine gk fun K hK=>?_|refine aI ?_))
    simp only[nx,inB];exact⟨L-(i+1),_,by omega,(aq (sl':=[(1,zI cN),(5, .own 19),(6,zI (r:Nat)),(7,zI (c:Nat)),(8,d8),(9, .sc (.bool (decide (2<=(Mx.scan c r N (i+1-r)).2)))),(10,zI ((i+1:Nat):Int))]) (ow':=[(19,⟨113,1,N.map dZ⟩)]) az aD),i+1,by omega,by omega,rfl,by rw[h8]⟩
   ·cases hp:(Mx.scan c r N (i-r)).1 with
    |none=>
     have h2:=((Mx.gO c r N (i-r)).no hp).1;have HS:=Mx.Mb hri h0 hp;rw[h2]at HS;rw[show atD none=zI (-1)from rfl,h2,show decide (2<=0)=false from rfl]
     (repeat(first|refine gk fun K hK=>?_|refine aI ?_));refine mK ?_;(repeat(first|refine gk fun K hK=>?_|refine aI ?_))
     refine gP ?_
     (repeat(first|refine gk fun K hK=>?_|refine aI ?_));refine wI ?_;(repeat(first|refine gk fun K hK=>?_|refine aI ?_))
     refine gQ ?_
     (repeat(first|refine gk fun K hK=>?_|refine aI ?_));refine Jt ?_;(repeat(first|refine gk fun K hK=>?_|refine aI ?_));refine Rp ?_;refine eV ?_;refine zs82 ?_;refine eV ?_;refine CP ?_;refine Rn ?_;refine CP ?_;refine Rn ?_;(first|(first|(refine aHs rfl rfl rfl rfl rfl ?_ ?_;(focus(apply bh;(conv=>lhs;whnf);(first|done|exact rfl|(apply bg;(first|(apply au;omega)|(apply aw;omega)|assumption|(simp;done)))))))|refine qN rfl rfl rfl rfl rfl cE aj zb30 aj aj ?_)|((try refine aY ?_);(first|(refine aLs rfl rfl rfl rfl ?_ ?_;(focus(apply bh;(conv=>lhs;whnf);(first|done|exact rfl|(apply bg;(first|(apply au;omega)|(apply aw;omega)|assumption|(simp;done)))))))|refine aLw rfl rfl rfl rfl cE zb30 ?_)));refine zs86 ?_;refine I4 ?_;refine jg ?_;(repeat(first|refine gk fun K hK=>?_|refine aI ?_))
     refine gP ?_
     (repeat(first|refine gk fun K hK=>?_|refine aI ?_));refine tK ?_;(repeat(first|refine gk fun K hK=>?_|refine aI ?_));refine gy ?_;(repeat(first|refine gk fun K hK=>?_|refine aI ?_))
     simp only[nx,inB];exact⟨L-(i+1),_,by omega,(aq (sl':=[(1,zI cN),(5, .own 19),(6,zI (r:Nat)),(7,zI (c:Nat)),(8,zI (i:Nat)),(9, .sc (.bool false)),(10,zI ((i+1:Nat):Int))]) (ow':=[(19,⟨113,1,N.map dZ⟩)]) az aD),i+1,by omega,by omega,rfl,by rw[HS];rfl⟩
    |some t=>
     have HT:=(Mx.gO c r N (i-r)).yes t hp;have htL:t<L:=by have:=HT.2.1;omega
     have hq1:1<=(Mx.scan c r N (i-r)).2:=HT.2.2.2.2.1;clear HT;have HLT:=Mx.Hj hri h0 hp;have HGE:=Mx.Hk hri h0 hp;obtain⟨q,hq⟩:∃q,q=(Mx.scan c r N (i-r)).2:=⟨_,rfl⟩;rw[<-hq]at HLT HGE hq1;rw[<-hq,show atD (some t)=zI (t:Nat)from rfl];clear hq hp;have hgt:=gu (M:=N) (i:=t) aa;have hxt:=ny hN (show t<N.length by omega) hcn;have S1:=EH (Mx.at' N i c) (bZ (hNB i) aa);have S2:=EH (Mx.at' N t c) (bZ (hNB t) aa);have CM:=KX ((Mx.at' N i c).natAbs:Int) ((Mx.at' N t c).natAbs:Int) (tw (by rw[gU];exact hNB i) aa) (tw (by rw[gU];exact hNB t) aa);have gs:=xq (((Mx.at' N i c).natAbs:Int)-((Mx.at' N t c).natAbs:Int));have hii:(i:Int)=((i:Nat):Int):=rfl;by_cases hlt:(Mx.at' N i c).natAbs<(Mx.at' N t c).natAbs
     ·have HS:=HLT hlt;clear HLT HGE;have hg:=gs.2 aa;by_cases h2q:2<=q;all_goals
       first
       |rw[show decide (2<=q)=true from au h2q]
       |rw[show decide (2<=q)=false from aw h2q]
       (repeat(first|refine gk fun K hK=>?_|refine aI ?_));refine mK ?_;(repeat(first|refine gk fun K hK=>?_|refine aI ?_))
       refine gP ?_
       (repeat(first|refine gk fun K hK=>?_|refine aI ?_));refine wI ?_;(repeat(first|refine gk fun K hK=>?_|refine aI ?_))
       refine gQ ?_
       (repeat(first|refine gk fun K hK=>?_|refine aI ?_));refine Jt ?_;(repeat(first|refine gk fun K hK=>?_|refine aI ?_));refine QF ?_;(repeat(first|refine gk fun K hK=>?_|refine aI ?_))
       refine gP ?_
       (repeat(first|refine gk fun K hK=>?_|refine aI ?_));refine tK ?_;(repeat(first|refine gk fun K hK=>?_|refine aI ?_));refine gy ?_;(repeat(first|refine gk fun K hK=>?_|refine aI ?_))
       simp only[nx,inB];exact⟨L-(i+1),_,by omega,(aq (sl':=[(1,zI cN),(5, .own 19),(6,zI (r:Nat)),(7,zI (c:Nat)),(8,zI (i:Nat)),(9, .sc (.bool true)),(10,zI ((i+1:Nat):Int))]) (ow':=[(19,⟨113,1,N.map dZ⟩)]) az aD),i+1,by omega,by omega,rfl,by rw[HS,show decide (2<=q+1)=true from au aa];rfl⟩
     ·have HS:=HGE hlt;clear HLT HGE;have hg:¬sgn (((Mx.at' N i c).natAbs:Int)-((Mx.at' N t c).natAbs:Int))<0:=fun h=>hlt (by have:=gs.1 h;omega);by_cases h2q:2<=q;all_goals
       first
       |rw[show decide (2<=q)=true from au h2q]
       |rw[show decide (2<=q)=false from aw h2q]
       (repeat(first|refine gk fun K hK=>?_|refine aI ?_));refine mK ?_;(repeat(first|refine gk fun K hK=>?_|refine aI ?_))
       refine gP ?_
       (repeat(first|refine gk fun K hK=>?_|refine aI ?_));refine wI ?_;(repeat(first|refine gk fun K hK=>?_|refine aI ?_))
       refine gQ ?_
       (repeat(first|refine gk fun K hK=>?_|refine aI ?_));refine Jt ?_;(repeat(first|refine gk fun K hK=>?_|refine aI ?_));refine QF ?_;(repeat(first|refine gk fun K hK=>?_|refine aI ?_))
       refine gQ ?_
       (repeat(first|refine gk fun K hK=>?_|refine aI ?_));refine gy ?_;(repeat(first|refine gk fun K hK=>?_|refine aI ?_))
       simp only[nx,inB];exact⟨L-(i+1),_,by omega,(aq (sl':=[(1,zI cN),(5, .own 19),(6,zI (r:Nat)),(7,zI (c:Nat)),(8,zI (t:Nat)),(9, .sc (.bool true)),(10,zI ((i+1:Nat):Int))]) (ow':=[(19,⟨113,1,N.map dZ⟩)]) az aD),i+1,by omega,by omega,rfl,by rw[HS,show decide (2<=q+1)=true from au aa];rfl⟩
  ·obtain rfl:i=L:=by omega
   have hpk:Mx.pick r c N=Mx.scan c r N (i-r):=by unfold Mx.pick;rw[hNL]
   cases hp:(Mx.scan c r N (i-r)).1 with
   |none=>
    have eN:N=Mc:=by rw[<-hNc,Mx.wo (by rw[hpk];exact hp)]
    rw[<-eN]at TAIL;rw[show atD none=zI (-1)from rfl]
    (repeat(first|refine gk fun K hK=>?_|refine aI ?_));refine mK ?_;(repeat(first|refine gk fun K hK=>?_|refine aI ?_))
    refine gQ ?_
    (repeat(first|refine gk fun K hK=>?_|refine aI ?_));refine ja ?_;(repeat(first|refine gk fun K hK=>?_|refine aI ?_))
    refine gP ?_
    (refine ay (aq (sl':=[(1,zI cN),(5, .own 19),(6,zI (r:Nat)),(7,zI (c:Nat))]) (ow':=[(19,⟨113,1,N.map dZ⟩)]) az aD) ?_)
    (repeat(first|refine gk fun K hK=>?_|refine aI ?_))
    all_goals((simp only[nx,inB,ite_true,ite_false,↓reduceIte,Nat.reduceEqDiff,reduceCtorEq]);apply_assumption-exfalso)
   |some t=>
    have HT:=(Mx.gO c r N (i-r)).yes t hp;have htL:t<i:=by have:=HT.2.1;omega
    have htz:=HT.2.2.1;have hq1:1<=(Mx.scan c r N (i-r)).2:=HT.2.2.2.2.1;clear HT;have hp':(Mx.pick r c N).1=some t:=by rw[hpk];exact hp
    have ONE:=Mx.yM (r:=r) (c:=c) (M:=N) hp';have STP:=Mx.wm hN hp';have MEA:=Mx.lh hN hp';have JST:=Mx.BH hN hJ hp';rw[hpk]at ONE STP MEA JST;obtain⟨q,hq⟩:∃q,q=(Mx.scan c r N (i-r)).2:=⟨_,rfl⟩;rw[<-hq]at hq1 ONE STP MEA JST;rw[<-hq,show atD (some t)=zI (t:Nat)from rfl];clear hq hp hp' hpk;have hgr:=gu (M:=N) (i:=r) aa;have hgt:=gu (M:=N) (i:=t) aa;have hsm:=SE N r t;have hrr':(r:Int)=((r:Nat):Int):=rfl;have htt':(t:Int)=((t:Nat):Int):=rfl
    (repeat(first|refine gk fun K hK=>?_|refine aI ?_));refine mK ?_;(repeat(first|refine gk fun K hK=>?_|refine aI ?_))
    refine gQ ?_
    (repeat(first|refine gk fun K hK=>?_|refine aI ?_));refine ja ?_;(repeat(first|refine gk fun K hK=>?_|refine aI ?_))
    refine gQ ?_
    (repeat(first|refine gk fun K hK=>?_|refine aI ?_));refine tM ?_;refine ij ?_;refine ij ?_;refine ij ?_;refine ij ?_;refine yR ?_;refine ij ?_;refine qU ?_;refine iH ?_;refine qU ?_;(refine xN (i:=r) rfl rfl rfl cD cD bf aj sf aj dT aj ai qf ?_);refine qU ?_;(refine xN (i:=t) rfl rfl rfl cD cD bf aj sf aj dT aj ai qf ?_);refine mL ?_;(repeat(first|refine gk fun K hK=>?_|refine aI ?_))
    (refine ay (aq (sl':=[(1,zI cN),(5, .own 19),(6,zI (r:Nat)),(7,zI (c:Nat)),(9, .sc (.bool (decide (2<=q))))]) (ow':=[(19,⟨113,1,((N.map dZ).set r (dZ (Mx.rw N t))).set t (dZ (Mx.rw N r))⟩)]) az aD) ?_)
    rw[hsm];by_cases hq2:q=1
    ·have eN:Mx.swp N r t=Mc:=by rw[<-hNc,ONE hq2]
     rw[<-eN]at TAIL
     (repeat(first|refine gk fun K hK=>?_|refine aI ?_));refine CX ?_;(repeat(first|refine gk fun K hK=>?_|refine aI ?_))
     refine gP ?_
     (refine ay (aq (sl':=[(1,zI cN),(5, .own 19),(6,zI (r:Nat)),(7,zI (c:Nat))]) (ow':=[(19,⟨113,1,(Mx.swp N r t).map dZ⟩)]) az aD) ?_)
     (repeat(first|refine gk fun K hK=>?_|refine aI ?_))
     all_goals((simp only[nx,inB,ite_true,ite_false,↓reduceIte,Nat.reduceEqDiff,reduceCtorEq]);apply_assumption-exfalso)
    ·have HE:=(STP hq2).symm.trans hNc;obtain⟨hrN,htN,hrt,hmeas⟩:=MEA hq2;obtain⟨hJB,hJ2⟩:=JST hq2;clear STP MEA JST ONE hsm hgr hgt;have hSR:=Mx.lC hN hrN htN;have hSL:(Mx.swp N r t).length=i:=by rw[Mx.dK];exact hNL
     have hpiv:Mx.at' (Mx.swp N r t) r c≠0:=by
      rw[Mx.di hrN htN];split
      ·rename_i e;rw[e];exact htz
      ·rw[ak rfl];exact htz
     unfold Mx.elim at HE hmeas hJ2;rw[hNL]at hJB;rw[hSL]at HE hmeas hJ2;obtain⟨S,hS⟩:∃S,S=Mx.swp N r t:=⟨_,rfl⟩;rw[<-hS]at HE hmeas hJ2 hSR hSL hpiv hJB;rw[<-hS];clear hS TAIL
     (repeat(first|refine gk fun K hK=>?_|refine aI ?_));refine CX ?_;(repeat(first|refine gk fun K hK=>?_|refine aI ?_))
     refine gQ ?_
     (repeat(first|refine gk fun K hK=>?_|refine aI ?_));refine gy ?_;(repeat(first|refine gk fun K hK=>?_|refine aI ?_))
     (refine ay (aq (sl':=[(1,zI cN),(5, .own 19),(6,zI (r:Nat)),(7,zI (c:Nat)),(11,zI ((r+1:Nat):Int))]) (ow':=[(19,⟨113,1,S.map dZ⟩)]) az aD) ?_)
     refine bc (fun k s=>∃j,r+1<=j/\j<=i/\k=i-j/\s=⟨[(1,zI cN),(5, .own 19),(6,zI (r:Nat)),(7,zI (c:Nat)),(11,zI (j:Nat))],[(19,⟨113,1,(Mx.br r c (r+1) S (j-(r+1))).map dZ⟩)]⟩) (m:=i-(r+1)) ⟨r+1,af _,by omega,rfl,by rw[dH];rfl⟩ fun k s hs=>?_;obtain⟨j,hrj,hji,rfl,rfl⟩:=hs;by_cases hj:j<i
     ·have HNX : Mx.br r c (r + 1) S (j + 1 - (r + 1)) = (Mx.br r c (r + 1) S (j - (r + 1))).set j (Mx.fK (Mx.rw (Mx.br r c (r + 1) S (j - (r + 1))) r) c (Mx.rw (Mx.br r c (r + 1) S (j - (r + 1))) j)) := by
       rw[show j+1-(r+1)=(j-(r+1))+1 by omega,Mx.nq aa (by rw[hSL];omega),show r+1+(j-(r+1))=j by omega]
      have hpn:Mx.at' (Mx.br r c (r+1) S (j-(r+1))) r c≠0:=by
       unfold Mx.at';rw[Mx.fL r c (r+1) S (j-(r+1)) (by rw[hSL];omega) r,ah aa];exact hpiv
      have hBN:=(hJB (j-(r+1)) aa).mono hKE;have hRN:Mx.Rc n (Mx.br r c (r+1) S (j-(r+1))):=Mx.oa hSR aa _ aa;have hLN:(Mx.br r c (r+1) S (j-(r+1))).length=i:=by rw[Mx.eK];exact hSL
      obtain⟨A,hA⟩:∃A,A=Mx.br r c (r+1) S (j-(r+1)):=⟨_,rfl⟩;rw[<-hA]at HNX hpn hBN hRN hLN;rw[<-hA];clear hA hJB hJ2 hmeas HE;have hgj:=gu (M:=A) (i:=j) aa;have hgr:=gu (M:=A) (i:=r) aa;have hxj:=ny hRN (show j<A.length by omega) hcn;have hxr:=ny hRN (show r<A.length by omega) hcn;have DM:=yK (Mx.at' A j c) (Mx.at' A r c) (bZ (hBN j c) aa) (bZ (hBN r c) aa) hpn;have TK:=EA (c:=c) hRN (show j<A.length by omega) (show r<A.length by omega) hn hBN hEf;have hjj:(j:Int)=((j:Nat):Int):=rfl
      (repeat(first|refine gk fun K hK=>?_|refine aI ?_));refine mK ?_;(repeat(first|refine gk fun K hK=>?_|refine aI ?_))
      refine gP ?_
      (repeat(first|refine gk fun K hK=>?_|refine aI ?_));(refine wz [12,13] ai zb24 ?_);refine Qg ?_;(refine qd (k:=12) (z:=(.agg #[.bool false, .slice none 0 0])) (d:=(.nm 0)) rfl rfl rfl rfl rfl ai aj aj dT aj aj ?_);(refine qd (k:=13) (z:=(.agg #[.bool false, .slice none 0 0])) (d:=(.nm 0)) rfl rfl rfl rfl rfl ai aj aj dT aj aj ?_);refine oA ?_;refine oA ?_;refine wN ?_;refine mL ?_;(repeat(first|refine gk fun K hK=>?_|refine aI ?_))
      (refine ay (aq (sl':=[(1,zI cN),(5, .own 19),(6,zI (r:Nat)),(7,zI (c:Nat)),(11,zI (j:Nat)),(12, .opt 12 0)]) (ow':=[(12,⟨62,2,[.nm (Mx.at' A j c/Mx.at' A r c)]⟩),(19,⟨113,1,A.map dZ⟩)]) az aD) ?_)
      (repeat(first|refine gk fun K hK=>?_|refine aI ?_));refine QH ?_;(repeat(first|refine gk fun K hK=>?_|refine aI ?_));refine gy ?_;(repeat(first|refine gk fun K hK=>?_|refine aI ?_))
      simp only[nx,inB];exact⟨i-(j+1),_,by omega,(aq (sl':=[(1,zI cN),(5, .own 19),(6,zI (r:Nat)),(7,zI (c:Nat)),(11,zI ((j+1:Nat):Int))]) (ow':=[(19,⟨113,1,(A.map dZ).set j (dZ (Mx.fK (Mx.rw A r) c (Mx.rw A j)))⟩)]) az aD),j+1,by omega,by omega,rfl,by rw[HNX,qi]⟩
     ·obtain rfl:j=i:=by omega
      have hLN:(Mx.br r c (r+1) S (j-(r+1))).length=j:=by rw[Mx.eK];exact hSL
      (repeat(first|refine gk fun K hK=>?_|refine aI ?_));refine mK ?_;(repeat(first|refine gk fun K hK=>?_|refine aI ?_))
      refine gQ ?_
      (repeat(first|refine gk fun K hK=>?_|refine aI ?_))
      simp only[nx,inB];exact⟨_,_,hmeas,(aq (sl':=[(1,zI cN),(5, .own 19),(6,zI (r:Nat)),(7,zI (c:Nat))]) (ow':=[(19,⟨113,1,(Mx.br r c (r+1) S (j-(r+1))).map dZ⟩)]) az aD),_,rfl,Mx.oa hSR aa (j-(r+1)) aa,by rw[Mx.eK];exact hSL,hJ2,HE,rfl⟩
 ·have eT : T.2 = M := by
   by_cases h1:c<cN
   ·rw[Mx.uk aa]at hT;rw[<-hT]
   ·rw[show cN-c=0 by omega]at hT;rw[<-hT];rfl
  by_cases h1:c<cN
  ·have hd1:decide ((c:Int)<(cN:Int))=true:=au aa
   (repeat(first|refine gk fun K hK=>?_|refine aI ?_));refine Ju ?_;(repeat(first|refine gk fun K hK=>?_|refine aI ?_))
   refine gQ ?_
   (repeat(first|refine gk fun K hK=>?_|refine aI ?_))
   refine ay (aA (k:=19) bf bA bz) ?_;refine tK ?_
   (repeat(first|refine gk fun K hK=>?_|refine aI ?_))
   rw[eT];exact⟨_,Sh.refl, .one (.tmp 4) _ rfl (.tmp 4 rfl)⟩
  ·have hd1:decide ((c:Int)<(cN:Int))=false:=aw aa
   (repeat(first|refine gk fun K hK=>?_|refine aI ?_));refine Ju ?_;(repeat(first|refine gk fun K hK=>?_|refine aI ?_))
   refine gQ ?_
   (repeat(first|refine gk fun K hK=>?_|refine aI ?_))
   refine ay (aA (k:=19) bf bA bz) ?_;refine tK ?_
   (repeat(first|refine gk fun K hK=>?_|refine aI ?_))
   rw[eT];exact⟨_,Sh.refl, .one (.tmp 4) _ rfl (.tmp 4 rfl)⟩
end DW
end
end Go.Proofs.YtcgjmdpcplhanaaGreat
