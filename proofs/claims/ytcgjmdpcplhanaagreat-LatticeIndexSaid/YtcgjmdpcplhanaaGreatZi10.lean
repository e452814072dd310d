/- Lemmas for the law: E14 -/
import Derived.Test.YtcgjmdpcplhanaaGreatZi9
namespace Go.Proofs.YtcgjmdpcplhanaaGreat
section
theorem gF{p q:Prop}(h:q)(f:Wq q->p:=by(intro hW;((first|refine aN1 rfl rfl rfl ry ?_|refine jP rfl rfl rfl ry ?_));exact hW.out)):p:=f ⟨h⟩
theorem kC{p q:Prop}(h:q)(f:Wq q->p:=by(intro hW;((first|refine aN1 rfl rfl rfl zb43 ?_|refine jP rfl rfl rfl zb43 ?_));exact hW.out)):p:=f ⟨h⟩
theorem qH{p q:Prop}(h:q)(f:Wq q->p:=by(intro hW;((first|refine aN1 rfl rfl rfl xq ?_|refine jP rfl rfl rfl xq ?_));exact hW.out)):p:=f ⟨h⟩
theorem Qf{p q:Prop}(h:q)(f:Wq q->p:=by(intro hW;((first|refine fR rfl rfl rfl aj zb2 aj aj ?_|((try refine bn ?_);refine aL1 rfl rfl rfl zb2 ?_)));exact hW.out)):p:=f ⟨h⟩
theorem jC{p q:Prop}(h:q)(f:Wq q->p:=by(intro hW;((refine Bu (i:=0) rfl rfl rfl cO cO aH aj tz aj dC aj ah tA ?_));exact hW.out)):p:=f ⟨h⟩
theorem fT{p q:Prop}(h:q)(f:Wq q->p:=by(intro hW;((first|refine aN1 rfl rfl rfl zb1 ?_|refine jP rfl rfl rfl zb1 ?_));exact hW.out)):p:=f ⟨h⟩
theorem kB{p q:Prop}(h:q)(f:Wq q->p:=by(intro hW;(refine Un ah ?_);exact hW.out)):p:=f ⟨h⟩
theorem zb27{p:Prop}(h:p:=by(apply nX;(exact rfl);(focus((apply az;(conv=>lhs;whnf);(first|done|exact rfl))));(focus((apply az;(conv=>lhs;whnf);(first|done|exact rfl))));(exact rfl);(exact rfl);(focus((first|exact fail)));(exact rfl))):p:=h
theorem mH{p q:Prop}(h:q)(f:Wq q->p:=by(intro hW;(refine vM [] ah (by exact vA) ?_);exact hW.out)):p:=f ⟨h⟩
theorem Qc{p q:Prop}(h:q)(f:Wq q->p:=by(intro hW;((first|(first|(refine aHs rfl rfl rfl rfl rfl ?_ ?_;(focus(apply br;(conv=>lhs;whnf);(first|done|exact rfl|(apply bq;(first|(apply aB;omega)|(apply aF;omega)|assumption|(simp;done)))))))|refine uD rfl rfl rfl rfl rfl cE aj zb37 aj aj ?_)|((try refine bn ?_);(first|(refine aLs rfl rfl rfl rfl ?_ ?_;(focus(apply br;(conv=>lhs;whnf);(first|done|exact rfl|(apply bq;(first|(apply aB;omega)|(apply aF;omega)|assumption|(simp;done)))))))|refine aLw rfl rfl rfl rfl cE zb37 ?_))));exact hW.out)):p:=f ⟨h⟩
theorem Pu{p q:Prop}(h:q)(f:Wq q->p:=by(intro hW;(refine ck ?_;refine rq ?_;refine gL ?_;refine lP ?_;refine jx ?_;refine zs7 ?_;refine bc ?_);exact hW.out)):p:=f ⟨h⟩
theorem vW{p q:Prop}(h:q)(f:Wq q->p:=by(intro hW;(refine ck ?_;refine rq ?_;refine gL ?_;refine lP ?_;refine jx ?_;refine uJ ?_;refine bc ?_);exact hW.out)):p:=f ⟨h⟩
theorem Qe{p q:Prop}(h:q)(f:Wq q->p:=by(intro hW;((first|(apply aI 21;(focus kernel_rfl);(decide+kernel))|(apply aI 20;(focus kernel_rfl);(decide+kernel))|(apply aI 19;(focus kernel_rfl);(decide+kernel))|(apply aI 18;(focus kernel_rfl);(decide+kernel))|(apply aI 17;(focus kernel_rfl);(decide+kernel))|(apply aI 16;(focus kernel_rfl);(decide+kernel))|(apply aI 15;(focus kernel_rfl);(decide+kernel))|(apply aI 14;(focus kernel_rfl);(decide+kernel)));simp only[eH,dK,fj,dA]);exact hW.out)):p:=f ⟨h⟩
theorem Jc{p q:Prop}(h:q)(f:Wq q->p:=by(intro hW;((first|(first|(refine aHs rfl rfl rfl rfl rfl ?_ ?_;(focus(apply br;(conv=>lhs;whnf);(first|done|exact rfl|(apply bq;(first|(apply aB;omega)|(apply aF;omega)|assumption|(simp;done)))))))|refine uD rfl rfl rfl rfl rfl cE aj ry aj aj ?_)|((try refine bn ?_);(first|(refine aLs rfl rfl rfl rfl ?_ ?_;(focus(apply br;(conv=>lhs;whnf);(first|done|exact rfl|(apply bq;(first|(apply aB;omega)|(apply aF;omega)|assumption|(simp;done)))))))|refine aLw rfl rfl rfl rfl cE ry ?_))));exact hW.out)):p:=f ⟨h⟩
theorem Qd{p q:Prop}(h:q)(f:Wq q->p:=by(intro hW;((first|(first|(refine aHs rfl rfl rfl rfl rfl ?_ ?_;(focus(apply br;(conv=>lhs;whnf);(first|done|exact rfl|(apply bq;(first|(apply aB;omega)|(apply aF;omega)|assumption|(simp;done)))))))|refine uD rfl rfl rfl rfl rfl cE aj zb4 aj aj ?_)|((try refine bn ?_);(first|(refine aLs rfl rfl rfl rfl ?_ ?_;(focus(apply br;(conv=>lhs;whnf);(first|done|exact rfl|(apply bq;(first|(apply aB;omega)|(apply aF;omega)|assumption|(simp;done)))))))|refine aLw rfl rfl rfl rfl cE zb4 ?_))));exact hW.out)):p:=f ⟨h⟩
theorem Ch{p q:Prop}(h:q)(f:Wq q->p:=by(intro hW;(refine Jc ?_;refine Jc ?_;refine Qd ?_;refine zs83 ?_;refine Jc ?_;refine Qd ?_;refine zs83 ?_);exact hW.out)):p:=f ⟨h⟩
theorem Qb{p q:Prop}(h:q)(f:Wq q->p:=by(intro hW;((first|(first|(refine aHs rfl rfl rfl rfl rfl ?_ ?_;(focus(apply br;(conv=>lhs;whnf);(first|done|exact rfl|(apply bq;(first|(apply aB;omega)|(apply aF;omega)|assumption|(simp;done)))))))|refine uD rfl rfl rfl rfl rfl cE aj uM aj aj ?_)|((try refine bn ?_);(first|(refine aLs rfl rfl rfl rfl ?_ ?_;(focus(apply br;(conv=>lhs;whnf);(first|done|exact rfl|(apply bq;(first|(apply aB;omega)|(apply aF;omega)|assumption|(simp;done)))))))|refine aLw rfl rfl rfl rfl cE uM ?_))));exact hW.out)):p:=f ⟨h⟩
theorem Pt{p q:Prop}(h:q)(f:Wq q->p:=by(intro hW;(refine Qe ?_;refine lX ?_;refine zs82 ?_;refine lX ?_;refine Ch ?_;refine Qb ?_;refine Ch ?_;refine Qb ?_;refine zs85 ?_;refine zs86 ?_;refine zs87 ?_;refine kH ?_);exact hW.out)):p:=f ⟨h⟩
theorem vV{p q:Prop}(h:q)(f:Wq q->p:=by(intro hW;(refine cF ?_;refine uH ?_;refine bc ?_);exact hW.out)):p:=f ⟨h⟩
theorem Jm{p:Prop}(h:p:=by(apply Bn;(exact rfl);(focus((apply az;(conv=>lhs;whnf);(first|done|exact rfl))));(focus((apply az;(conv=>lhs;whnf);(first|done|exact rfl))));(focus((apply az;(conv=>lhs;whnf);(first|done|exact rfl))));(exact rfl);(exact rfl);(exact rfl);(assumption);(exact rfl))):p:=h
theorem Qg{p q:Prop}(h:q)(f:Wq q->p:=by(intro hW;((first|refine fR rfl rfl rfl aj Jm aj aj ?_|((try refine bn ?_);refine aL1 rfl rfl rfl Jm ?_)));exact hW.out)):p:=f ⟨h⟩
theorem zs108{p q:Prop}(h:q)(f:Wq q->p:=by(intro hW;(((try refine bn ?_);(refine pI (i:=j) rfl rfl rfl cO cO aH aj tz aj dC aj ah tA ?_)));exact hW.out)):p:=f ⟨h⟩
theorem Pv{p q:Prop}(h:q)(f:Wq q->p:=by(intro hW;(refine zs92 ?_;refine oa ?_;refine lX ?_;refine lh ?_;refine lX ?_;refine lh ?_;refine gG ?_;refine Qg ?_;refine zs28 ?_;refine zs108 ?_;refine kH ?_);exact hW.out)):p:=f ⟨h⟩
theorem zb73{p:Prop}(h:p:=by first|(apply fA;assumption)|exact rfl):p:=h
theorem tv{p q:Prop}(h:q)(f:Wq q->p:=by(intro hW;((first|refine aN1 rfl rfl rfl zb4 ?_|refine Bv rfl rfl rfl rfl cO cO aH ah ah (by first|omega|(simp;omega)) zb73 ?_|refine jP rfl rfl rfl zb4 ?_));exact hW.out)):p:=f ⟨h⟩
theorem yr{p q:Prop}(h:q)(f:Wq q->p:=by(intro hW;(refine gF ?_;refine gF ?_;refine tv ?_;refine fT ?_;refine gF ?_;refine tv ?_;refine fT ?_);exact hW.out)):p:=f ⟨h⟩
theorem IE{p q:Prop}(h:q)(f:Wq q->p:=by(intro hW;(refine ck ?_;refine oR ?_;refine fS ?_;refine zs8 ?_;refine Aw ?_;refine Ij ?_;refine nB ?_;refine bc ?_);exact hW.out)):p:=f ⟨h⟩
theorem aY{p q:Prop}(h:q)(f:Wq q->p:=by(intro hW;(first|refine FZ ?_|refine Hz ?_|refine H5 ?_|refine MY ?_|((simp only[nx,inB,ite_true,ite_false,↓reduceIte,Nat.reduceEqDiff,reduceCtorEq]);apply_assumption-exfalso));exact hW.out)):p:=f ⟨h⟩
theorem zb21{p:Prop}(h:p:=by(apply ui;(focus((apply ui;(exact vA);(focus((repeat(first|exact ug|(apply qU;(exact rfl))|(apply uh;(exact rfl)))))))));(focus((repeat(first|exact ug|(apply qU;(exact rfl))|(apply uh;(exact rfl)))))))):p:=h
theorem zb12{p:Prop}(h:p:=by(apply(Ue (zv:=(.agg #[.bool false,.slice none 0 0])) (d0:=(.nm 0)) (wd:=2));(exact rfl);(focus((apply az;(conv=>lhs;whnf);(first|done|exact rfl))));(focus((apply az;(conv=>lhs;whnf);(first|done|exact rfl))));(kernel_rfl);(kernel_rfl);(exact rfl);(exact rfl);(exact rfl);(exact rfl);(exact rfl);(omega);(focus(first|exact mP _|exact rfl)))):p:=h
theorem ID{p q:Prop}(h:q)(f:Wq q->p:=by(intro hW;(refine ck ?_;refine zs8 ?_;refine sZ ?_;refine uI ?_;refine de ?_);exact hW.out)):p:=f ⟨h⟩
theorem oZ{p q:Prop}(h:q)(f:Wq q->p:=by(intro hW;((first|refine aN1 rfl rfl rfl C4 ?_|refine jP rfl rfl rfl C4 ?_));exact hW.out)):p:=f ⟨h⟩
end
section
open Go.RowKit
namespace DW
def atD:Option Nat->D
 |none=>zI (-1)
 |some t=>zI (t:Nat)
theorem gl{M:Mx.Mat}{i:Nat}(h:i<M.length):M[i]?=some (Mx.rw M i):=by
 unfold Mx.rw;rw[ay,aZ h];rfl
theorem lM{M:Mx.Mat}{n i c:Nat}(hM:Mx.Rc n M)(h:i<M.length)(hc:c<n):(Mx.rw M i)[c]?=some (Mx.at' M i c):=by
 unfold Mx.at';rw[ay,aZ (by rw[hM.rw h];exact hc)];rfl
theorem T5{z:Int}{e k:Nat}(h:z.natAbs<=2^e)(he:e<16*k):(hd z.natAbs).length<=k:=ju (by
 have h1:(65536:Nat)^k=2^(16*k):=by rw[show(65536:Nat)=2^16 by rfl,<-uT]
 rw[h1];exact gK h (yE aa he))
theorem xB(z:Int):sgn z=0↔z=0:=by unfold sgn;split<;>(try split)<;>omega
theorem sO{z:Int}{e:Nat}(h:z.natAbs<=2^e)(he:e<=3000000000):(hd z.natAbs).length<=199999999:=T5 h aa
theorem bQ{z:Int}{e:Nat}(h:z.natAbs<=2^e)(he:e<=3000000000):Hf z:=aA (sO h he) aq
theorem Dx{N:Mx.Mat}{n i r c E:Nat}(hN:Mx.Rc n N)(hi:i<N.length)(hr:r<N.length)(hn:n<=1000)(hb:Mx.Bd (2^E) N)(hE:2*E<=3000000000):Fn Tryz.prog 149 [dZ (Mx.rw N i),dZ (Mx.rw N r),.nm (Mx.at' N i c/Mx.at' N r c)] (dZ (Mx.eF (Mx.rw N r) c (Mx.rw N i))):=by
 have hm:∀{i:Nat} {x:Int},x∈Mx.rw N i->x.natAbs<=2^E:=fun {i x} hx=>by
  obtain⟨j,hj,e⟩:=lS hx;have:=hb i j;unfold Mx.at' at this;rw[ay,aZ hj,e]at this;exact this
 have hq:(Mx.at' N i c/Mx.at' N r c).natAbs<=2^E:=aA (Mx.mz _ _) (hb i c);refine KM (Mx.rw N i) (Mx.rw N r) _ (by rw[hN.rw hi,hN.rw hr]) (by rw[hN.rw hi];omega) (fun x hx=>bQ (hm hx) aa) (fun y hy=>⟨bQ (hm hy) aa,bQ (e:=E+E) ?_ aa⟩) (bQ hq aa);rw[eQ,ff];exact cn hq (hm hy)
theorem Rr(N:Mx.Mat)(r t:Nat):((N.map dZ).set r (dZ (Mx.rw N t))).set t (dZ (Mx.rw N r))=(Mx.swp N r t).map dZ:=by
 unfold Mx.swp;rw[oA,oA]
set_option maxRecDepth 20000
set_option maxHeartbeats 2000000
theorem Mv(m:Mx.Mat)(n cN e p:Nat)(hR:Mx.Rc n m)(hc:cN<=n)(hn:n<=1000)(hm:m.length<=1000)(he:6<=e)(hp:m.length<=p\/cN<=p)(hf:2*(e*11^p)<=3000000000)(hb:Mx.Bd (2^e) m):
  Fn Tryz.prog 78 [dW m,zI cN] (dW (Mx.red cN 0 (0,m)).2):=by
 obtain⟨T,hT⟩:∃T,T=Mx.red cN 0 (0,m):=⟨_,rfl⟩;rw[<-hT];obtain⟨L,hL⟩:∃L,L=m.length:=⟨_,rfl⟩;rw[<-hL]at hp;refine bh Tryz.func78 ah rfl rfl rfl fun X0=>?_;simp only[aK]
 (repeat(first|refine gk fun K hK=>?_|refine aY ?_));refine vZ ?_;(repeat(first|refine gk fun K hK=>?_|refine aY ?_));refine gar ?_;(refine H9 (k:=19) (wd:=1) (T:=Tryz.prog.elem 27) rfl rfl rfl rfl ah ah aj aj cG ?_);refine zs4 ?_;(refine oQ rfl rfl rfl rfl cO cO aH aj uO ah ah (by(simp only[bI,ic];omega)) cG uL ?_);refine de ?_;(repeat(first|refine gk fun K hK=>?_|refine aY ?_));refine yy ?_;(repeat(first|refine gk fun K hK=>?_|refine aY ?_));refine yy ?_;(repeat(first|refine gk fun K hK=>?_|refine aY ?_))
 (refine av (aE (sl':=[(1,zI cN),(5, .own 19),(6,zI 0),(7,zI 0)]) (ow':=[(19,⟨113,1,m.map dZ⟩)]) aO aS) ?_)
 refine bB (fun k s=>∃r c M,k=cN-c/\c<=cN/\Mx.Rc n M/\M.length=L/\(r<=L/\r<=c)/\Mx.red (cN-c) c (r,M)=T/\Mx.Bd (2^(e*11^r)) M/\s=⟨[(1,zI cN),(5, .own 19),(6,zI (r:Nat)),(7,zI (c:Nat))],[(19,⟨113,1,M.map dZ⟩)]⟩) (m:=cN) ⟨0,0,m,rfl,bg _,hR,hL.symm,⟨bg _,bg _⟩,hT.symm,by rw[oE,eW];exact hb,rfl⟩ fun k s hs=>?_;clear hT hb;obtain⟨r,c,M,rfl,hcN,hM,hML,hr,hT,hb,rfl⟩:=hs;by_cases hgo:c<cN/\r<L
 ·obtain⟨hcc,hrr⟩:=hgo;have hd1:decide ((c:Int)<(cN:Int))=true:=aB aa;have hcn:c<n:=by omega
  (repeat(first|refine gk fun K hK=>?_|refine aY ?_));refine IE ?_;(repeat(first|refine gk fun K hK=>?_|refine aY ?_))
  refine gY ?_
  (repeat(first|refine gk fun K hK=>?_|refine aY ?_))
  obtain⟨X,hX⟩:∃X,X=2^(e*11^r):=⟨_,rfl⟩;obtain⟨K0,hK0⟩:∃K0,K0=6*X^5:=⟨_,rfl⟩;obtain⟨E,hE⟩:∃E,E=e*11^(r+1):=⟨_,rfl⟩;obtain⟨Mc,hMc⟩:∃Mc,Mc=Mx.dT r c M:=⟨_,rfl⟩;have hEf:2*E<=3000000000:=aA (cL 2 (by rw[hE];exact cL e (cv aa aa))) hf;have hX1:1<=X:=by rw[hX];exact eC aa
  have hnb:K0*(K0+1)<=2^E:=by
   have h1:6<=e*11^r:=aA he (gf _ (eC aa));have h2:=Mx.zF h1;rw[Mx.e11,<-hX,<-hE]at h2;rw[hK0];exact h2
  have hKE:K0<=2^E:=aA (gf _ aa) hnb;rw[<-hX]at hb;have hJ:Mx.Jn K0 r c M:= .inl ⟨X,hX1,hb,by rw[hK0];exact af _⟩;have hcl:=(Mx.qu (r:=r) (c:=c) hM).1.re;have hMcR:Mx.Rc n Mc:=by rw[hMc];exact hcl.rc hM
  have hMcL:Mc.length=L:=by rw[hMc,hcl.len];exact hML
  have hMcB:Mx.Bd K0 Mc:=by rw[hMc];exact Mx.Bp hM hJ
  have hB0:Mx.at' Mc r c=0->Mx.Bd (2^(e*11^r)) Mc:=fun h0=>by
   rw[hMc]at h0⊢;rw[(Mx.MG (r:=r) (c:=c) hM).resolve_right (fun hh=>hh h0),<-hX];exact hb
  clear hcl hX hK0 hX1;have TAIL:K ⟨[(1,zI cN),(5, .own 19),(6,zI (r:Nat)),(7,zI (c:Nat))],[(19,⟨113,1,Mc.map dZ⟩)]⟩:=by
   apply hK;have hrM:r<Mc.length:=by omega
   have hgr:=gl hrM;have hxr:=lM hMcR hrM hcn;have SX:=sq (Mx.at' Mc r c) (bQ (aA (hMcB r c) hKE) aa);have gx:=xB (Mx.at' Mc r c);have gn:=wA (Mx.at' Mc r c);have hT1:Mx.red (cN-(c+1)) (c+1) (Mx.step r c M)=T:=by
    rw[<-hT,show cN-c=cN-(c+1)+1 by omega,Mx.Ef aa]
   by_cases h0:Mx.at' Mc r c=0
   ·have eS : Mx.step r c M = (r, Mc) := by
     unfold Mx.step;simp only[];rw[<-hMc,an h0]
    rw[eS]at hT1;have hB2:=hB0 h0
    (repeat(first|refine gk fun K hK=>?_|refine aY ?_));refine vW ?_;(repeat(first|refine gk fun K hK=>?_|refine aY ?_))
    refine gY ?_
    (repeat(first|refine gk fun K hK=>?_|refine aY ?_));refine fJ ?_;(repeat(first|refine gk fun K hK=>?_|refine aY ?_))
    simp only[nx,inB];exact⟨cN-(c+1),_,by omega,(aE (sl':=[(1,zI cN),(5, .own 19),(6,zI (r:Nat)),(7,zI ((c+1:Nat):Int))]) (ow':=[(19,⟨113,1,Mc.map dZ⟩)]) aO aS),r,c+1,Mc,rfl,by omega,hMcR,hMcL,⟨hr.1,by omega⟩,hT1,hB2,rfl⟩
   ·have eS : Mx.step r c M = (r + 1, Mx.kG r c (Mx.di r c Mc)) := by
     unfold Mx.step;simp only[];rw[<-hMc,ai h0]
    rw[eS]at hT1;unfold Mx.kG at hT1;have hSB:=Mx.A3 (c:=c) hMcB hrM;have hSre:=Mx.su (c:=c) hrM;have hSR:=hSre.rc hMcR;have hSL:(Mx.di r c Mc).length=L:=by rw[hSre.len];exact hMcL
    have hAB:∀k,k<=(Mx.di r c Mc).length->Mx.Bd (2^E) (Mx.bp r c 0 (Mx.di r c Mc) k):=fun k hk=>(Mx.FW hSR aa hSB hk).mono hnb;have hpiv:Mx.at' (Mx.di r c Mc) r c≠0:=by
     unfold Mx.di;split
     ·rw[Mx.ns _ _ _ _ _ hrM,an rfl,Mx.jU];show-(Mx.at' Mc r c)≠0;omega
     ·exact h0
    clear hSre hSB
    (repeat(first|refine gk fun K hK=>?_|refine aY ?_));refine vW ?_;(repeat(first|refine gk fun K hK=>?_|refine aY ?_))
    refine ib ?_
    (repeat refine aY ?_)
    refine gk fun K2 hK2=>?_;have TAIL2:∀s,Sh X0 Tryz.f78.ntmps s ⟨[(1,zI cN),(5, .own 19),(6,zI (r:Nat)),(7,zI (c:Nat))],[(19,⟨113,1,(Mx.di r c Mc).map dZ⟩)]⟩->K2 s:=by
     intro s hs;apply hK2;refine av hs ?_;obtain⟨S,hS⟩:∃S,S=Mx.di r c Mc:=⟨_,rfl⟩;rw[<-hS]at hT1 hSR hSL hAB hpiv;rw[<-hS];clear hS hK2 hgr hxr SX gx gn h0 eS
     (repeat(first|refine gk fun K hK=>?_|refine aY ?_));refine yy ?_;(repeat(first|refine gk fun K hK=>?_|refine aY ?_))
     (refine av (aE (sl':=[(1,zI cN),(5, .own 19),(6,zI (r:Nat)),(7,zI (c:Nat)),(15,zI 0)]) (ow':=[(19,⟨113,1,S.map dZ⟩)]) aO aS) ?_)
     refine bB (fun k s=>∃j,j<=r/\k=r-j/\s=⟨[(1,zI cN),(5, .own 19),(6,zI (r:Nat)),(7,zI (c:Nat)),(15,zI (j:Nat))],[(19,⟨113,1,(Mx.bp r c 0 S j).map dZ⟩)]⟩) (m:=r) ⟨0,bg _,rfl,rfl⟩ fun k s hs=>?_;obtain⟨j,hjr,rfl,rfl⟩:=hs;have hLN:(Mx.bp r c 0 S j).length=L:=by rw[Mx.ep];exact hSL
     have hBN:=hAB j aa;have hRN:Mx.Rc n (Mx.bp r c 0 S j):=Mx.nV hSR aa j aa;by_cases hj:j<r
     ·have HNX : Mx.bp r c 0 S (j + 1) = (Mx.bp r c 0 S j).set j (Mx.eF (Mx.rw (Mx.bp r c 0 S j) r) c (Mx.rw (Mx.bp r c 0 S j) j)) := by
       have:=Mx.nn (r:=r) (c:=c) (s:=0) (k:=j) (M:=S) aa aa;rw[bu]at this;exact this
      have hpn:Mx.at' (Mx.bp r c 0 S j) r c≠0:=by
       unfold Mx.at';rw[Mx.fQ r c 0 S j aa r,ai aa];exact hpiv
      obtain⟨A,hA⟩:∃A,A=Mx.bp r c 0 S j:=⟨_,rfl⟩;rw[<-hA]at HNX hpn hBN hRN hLN;rw[<-hA];clear hA hAB hT1;have hgj:=gl (M:=A) (i:=j) aa;have hgr:=gl (M:=A) (i:=r) aa;have hxj:=lM hRN (show j<A.length by omega) hcn;have hxr:=lM hRN (show r<A.length by omega) hcn;have DM:=yd (Mx.at' A j c) (Mx.at' A r c) (bQ (hBN j c) aa) (bQ (hBN r c) aa) hpn;have TK:=Dx (c:=c) hRN (show j<A.length by omega) (show r<A.length by omega) hn hBN hEf;have hjj:(j:Int)=((j:Nat):Int):=rfl
      (repeat(first|refine gk fun K hK=>?_|refine aY ?_));refine qF ?_;(repeat(first|refine gk fun K hK=>?_|refine aY ?_))
      refine gY ?_
      (repeat(first|refine gk fun K hK=>?_|refine aY ?_));(refine vM [16,17] ah zb21 ?_);refine yr ?_;refine yr ?_;refine qH ?_;refine gF ?_;refine kC ?_;refine kC ?_;refine kC ?_;(refine nY (k:=16) (z:=(.agg #[.bool false, .slice none 0 0])) (d:=(.nm 0)) rfl rfl rfl rfl rfl ah aj aj dC aj aj ?_);(refine nY (k:=17) (z:=(.agg #[.bool false, .slice none 0 0])) (d:=(.nm 0)) rfl rfl rfl rfl rfl ah aj aj dC aj aj ?_);refine jC ?_;refine jC ?_;refine oZ ?_;refine kB ?_;(repeat(first|refine gk fun K hK=>?_|refine aY ?_))
      (refine av (aE (sl':=[(1,zI cN),(5, .own 19),(6,zI (r:Nat)),(7,zI (c:Nat)),(15,zI (j:Nat)),(16, .opt 16 0)]) (ow':=[(16,⟨62,2,[.nm (Mx.at' A j c/Mx.at' A r c)]⟩),(19,⟨113,1,A.map dZ⟩)]) aO aS) ?_)
      (repeat(first|refine gk fun K hK=>?_|refine aY ?_));refine Pv ?_;(repeat(first|refine gk fun K hK=>?_|refine aY ?_));refine fJ ?_;(repeat(first|refine gk fun K hK=>?_|refine aY ?_))
      simp only[nx,inB];exact⟨r-(j+1),_,by omega,(aE (sl':=[(1,zI cN),(5, .own 19),(6,zI (r:Nat)),(7,zI (c:Nat)),(15,zI ((j+1:Nat):Int))]) (ow':=[(19,⟨113,1,(A.map dZ).set j (dZ (Mx.eF (Mx.rw A r) c (Mx.rw A j)))⟩)]) aO aS),j+1,by omega,rfl,by rw[HNX,oA]⟩
     ·obtain rfl:j=r:=by omega
      rw[hE]at hBN
      (repeat(first|refine gk fun K hK=>?_|refine aY ?_));refine qF ?_;(repeat(first|refine gk fun K hK=>?_|refine aY ?_))
      refine ib ?_
      (repeat(first|refine gk fun K hK=>?_|refine aY ?_));refine fJ ?_;(repeat(first|refine gk fun K hK=>?_|refine aY ?_));refine fJ ?_;(repeat(first|refine gk fun K hK=>?_|refine aY ?_))
      simp only[nx,inB];exact⟨cN-(c+1),_,by omega,(aE (sl':=[(1,zI cN),(5, .own 19),(6,zI ((j+1:Nat):Int)),(7,zI ((c+1:Nat):Int))]) (ow':=[(19,⟨113,1,(Mx.bp j c 0 S j).map dZ⟩)]) aO aS),j+1,c+1,_,rfl,by omega,hRN,hLN,⟨by omega,by omega⟩,hT1,hBN,rfl⟩
    clear hK2;by_cases hneg:Mx.at' Mc r c<0
    ·have hgs:=gn.2 hneg;have eG:Mx.di r c Mc=Mc.set r (Mx.neg (Mx.rw Mc r)):=by unfold Mx.di;rw[an hneg]
     rw[eG,oA]at TAIL2;have hrl:(Mx.rw Mc r).length=n:=hMcR.rw hrM;have hin:∀x∈Mx.rw Mc r,x.natAbs<=2^E:=fun x hx=>by
      obtain⟨j,hj,e⟩:=lS hx;have:=hMcB r j;unfold Mx.at' at this;rw[ay,aZ hj,e]at this;exact aA this hKE
     have hf1:Hf 1:=by unfold Hf;rw[show(1:Int).natAbs=1 from rfl,zW];decide
     have hf0:Hf 0:=by unfold Hf;rw[show(0:Int).natAbs=0 from rfl,(nj 0).2 rfl];decide
     have TK:=KM (List.replicate (Mx.rw Mc r).length 0) (Mx.rw Mc r) 1 aV (by rw[tE];omega) (fun x hx=>by rw[List.eq_of_mem_replicate hx];exact hf0) (fun y hy=>⟨bQ (hin y hy) aa,by rw[fi];exact bQ (hin y hy) aa⟩) hf1;have eN:Mx.fE (-1) (List.replicate (Mx.rw Mc r).length 0) (Mx.rw Mc r)=Mx.neg (Mx.rw Mc r):=by
      refine Mx.sB (by rw[Mx.mn _ _ _ aV,tE,Mx.nN]) fun j=>?_;rw[Mx.lz _ _ _ _ aV,Mx.jU,ay,mK];split<;>simp<;>omega
     rw[eN]at TK;unfold dZ at TK;rw[Dn]at TK;have OF:=Bb 1 aa;have hrr':(r:Int)=((r:Nat):Int):=rfl
     (repeat(first|refine gk fun K hK=>?_|refine aY ?_));refine Pu ?_;(repeat(first|refine gk fun K hK=>?_|refine aY ?_))
     refine gY ?_
     (repeat(first|refine gk fun K hK=>?_|refine aY ?_));((first|(apply aI 15;(focus kernel_rfl);(decide+kernel))|(apply aI 14;(focus kernel_rfl);(decide+kernel))|(apply aI 13;(focus kernel_rfl);(decide+kernel))|(apply aI 12;(focus kernel_rfl);(decide+kernel))|(apply aI 11;(focus kernel_rfl);(decide+kernel))|(apply aI 10;(focus kernel_rfl);(decide+kernel))|(apply aI 9;(focus kernel_rfl);(decide+kernel))|(apply aI 8;(focus kernel_rfl);(decide+kernel)));simp only[eH,dK,fj,dA]);refine oa ?_;refine lX ?_;refine lh ?_;refine Qf ?_;(first|refine fR rfl rfl rfl aj zb12 aj aj ?_|((try refine bn ?_);refine aL1 rfl rfl rfl zb12 ?_));refine lX ?_;refine lh ?_;(first|refine fR rfl rfl rfl aj C5 aj aj ?_|((try refine bn ?_);refine aL1 rfl rfl rfl C5 ?_));refine Qg ?_;refine zs28 ?_;((try refine bn ?_);(refine pI (i:=r) rfl rfl rfl cO cO aH aj tz aj dC aj ah tA ?_));refine kH ?_;(repeat(first|refine gk fun K hK=>?_|refine aY ?_))
     exact(aE (sl':=[(1,zI cN),(5, .own 19),(6,zI (r:Nat)),(7,zI (c:Nat))]) (ow':=[(19,⟨113,1,(Mc.map dZ).set r (dZ (Mx.neg (Mx.rw Mc r)))⟩)]) aO aS)
    ·have hgs:¬sgn (Mx.at' Mc r c)<0:=fun h=>hneg (gn.1 h);have eG:Mx.di r c Mc=Mc:=by unfold Mx.di;rw[ai hneg]
     rw[eG]at TAIL2
     (repeat(first|refine gk fun K hK=>?_|refine aY ?_));refine Pu ?_;(repeat(first|refine gk fun K hK=>?_|refine aY ?_))
     refine ib ?_
     (repeat(first|refine gk fun K hK=>?_|refine aY ?_))
     exact(aE (sl':=[(1,zI cN),(5, .own 19),(6,zI (r:Nat)),(7,zI (c:Nat))]) (ow':=[(19,⟨113,1,Mc.map dZ⟩)]) aO aS)
  clear hK;have hred:0<cN-c:=by omega
  (refine av (aE (sl':=[(1,zI cN),(5, .own 19),(6,zI (r:Nat)),(7,zI (c:Nat))]) (ow':=[(19,⟨113,1,M.map dZ⟩)]) aO aS) ?_)
  refine bB (fun k s=>∃N,k=Mx.kv r c N/\Mx.Rc n N/\N.length=L/\Mx.Jn K0 r c N/\Mx.dT r c N=Mc/\s=⟨[(1,zI cN),(5, .own 19),(6,zI (r:Nat)),(7,zI (c:Nat))],[(19,⟨113,1,N.map dZ⟩)]⟩) (m:=Mx.kv r c M) ⟨M,rfl,hM,hML,hJ,hMc.symm,rfl⟩ fun k s hs=>?_;clear hJ hb hT hMc hML hM;obtain⟨N,rfl,hN,hNL,hJ,hNc,rfl⟩:=hs;have hNB:∀i,(Mx.at' N i c).natAbs<=2^E:=fun i=>aA (Mx.uj hJ i c) hKE
  (repeat(first|refine gk fun K hK=>?_|refine aY ?_));refine IL ?_;(repeat(first|refine gk fun K hK=>?_|refine aY ?_));refine lj ?_;(repeat(first|refine gk fun K hK=>?_|refine aY ?_))
  (refine av (aE (sl':=[(1,zI cN),(5, .own 19),(6,zI (r:Nat)),(7,zI (c:Nat)),(8,zI (-1)),(9, .sc (.bool false)),(10,zI (r:Nat))]) (ow':=[(19,⟨113,1,N.map dZ⟩)]) aO aS) ?_)
  refine bB (fun k s=>∃i,r<=i/\i<=L/\k=L-i/\s=⟨[(1,zI cN),(5, .own 19),(6,zI (r:Nat)),(7,zI (c:Nat)),(8,atD (Mx.scan c r N (i-r)).1),(9, .sc (.bool (decide (2<=(Mx.scan c r N (i-r)).2)))),(10,zI (i:Nat))],[(19,⟨113,1,N.map dZ⟩)]⟩) (m:=L-r) ⟨r,af _,by omega,rfl,by rw[gh];rfl⟩ fun k s hs=>?_;obtain⟨i,hri,hiL,rfl,rfl⟩:=hs;by_cases hi:i<L
  ·have hgi:=gl (M:=N) (i:=i) aa;have hxi:=lM hN (show i<N.length by omega) hcn;have SX:=sq (Mx.at' N i c) (bQ (hNB i) aa);have gx:=xB (Mx.at' N i c);by_cases h0:Mx.at' N i c=0
   ·have HZ:=Mx.K7 hri h0;rw[<-HZ];obtain⟨d8,h8⟩:∃d,d=atD (Mx.scan c r N (i+1-r)).1:=⟨_,rfl⟩;rw[<-h8]
    (repeat(first|refine gk fun K hK=>?_|refine aY ?_));refine oX ?_;(repeat(first|refine gk fun K hK=>?_|refine aY ?_))
    refine gY ?_
    (repeat(first|refine gk fun K hK=>?_|refine aY ?_));refine vW ?_;(repeat(first|refine gk fun K hK=>?_|refine aY ?_))
    refine gY ?_
    (repeat(first|refine gk fun K hK=>?_|refine aY ?_));refine fJ ?_;(repeat(first|refine gk fun K hK=>?_|refine aY ?_))
    simp only[nx,inB];exact⟨L-(i+1),_,by omega,(aE (sl':=[(1,zI cN),(5, .own 19),(6,zI (r:Nat)),(7,zI (c:Nat)),(8,d8),(9, .sc (.bool (decide (2<=(Mx.scan c r N (i+1-r)).2)))),(10,zI ((i+1:Nat):Int))]) (ow':=[(19,⟨113,1,N.map dZ⟩)]) aO aS),i+1,by omega,by omega,rfl,by rw[h8]⟩
   ·cases hp:(Mx.scan c r N (i-r)).1 with
    |none=>
     have h2:=((Mx.gC c r N (i-r)).no hp).1;have HS:=Mx.K8 hri h0 hp;rw[h2]at HS;rw[show atD none=zI (-1)from rfl,h2,show decide (2<=0)=false from rfl]
     (repeat(first|refine gk fun K hK=>?_|refine aY ?_));refine oX ?_;(repeat(first|refine gk fun K hK=>?_|refine aY ?_))
     refine gY ?_
     (repeat(first|refine gk fun K hK=>?_|refine aY ?_));refine vW ?_;(repeat(first|refine gk fun K hK=>?_|refine aY ?_))
     refine ib ?_
     (repeat(first|refine gk fun K hK=>?_|refine aY ?_));refine ID ?_;(repeat(first|refine gk fun K hK=>?_|refine aY ?_));refine Qe ?_;refine lX ?_;refine zs82 ?_;refine lX ?_;refine Ch ?_;refine Qc ?_;refine Ch ?_;refine Qc ?_;(first|(first|(refine aHs rfl rfl rfl rfl rfl ?_ ?_;(focus(apply br;(conv=>lhs;whnf);(first|done|exact rfl|(apply bq;(first|(apply aB;omega)|(apply aF;omega)|assumption|(simp;done)))))))|refine uD rfl rfl rfl rfl rfl cE aj zb27 aj aj ?_)|((try refine bn ?_);(first|(refine aLs rfl rfl rfl rfl ?_ ?_;(focus(apply br;(conv=>lhs;whnf);(first|done|exact rfl|(apply bq;(first|(apply aB;omega)|(apply aF;omega)|assumption|(simp;done)))))))|refine aLw rfl rfl rfl rfl cE zb27 ?_)));refine zs86 ?_;refine zs87 ?_;refine kH ?_;(repeat(first|refine gk fun K hK=>?_|refine aY ?_))
     refine gY ?_
     (repeat(first|refine gk fun K hK=>?_|refine aY ?_));refine lj ?_;(repeat(first|refine gk fun K hK=>?_|refine aY ?_));refine fJ ?_;(repeat(first|refine gk fun K hK=>?_|refine aY ?_))
     simp only[nx,inB];exact⟨L-(i+1),_,by omega,(aE (sl':=[(1,zI cN),(5, .own 19),(6,zI (r:Nat)),(7,zI (c:Nat)),(8,zI (i:Nat)),(9, .sc (.bool false)),(10,zI ((i+1:Nat):Int))]) (ow':=[(19,⟨113,1,N.map dZ⟩)]) aO aS),i+1,by omega,by omega,rfl,by rw[HS];rfl⟩
    |some t=>
     have HT:=(Mx.gC c r N (i-r)).yes t hp;have htL:t<L:=by have:=HT.2.1;omega
     have hq1:1<=(Mx.scan c r N (i-r)).2:=HT.2.2.2.2.1;clear HT;have HLT:=Mx.GM hri h0 hp;have HGE:=Mx.GN hri h0 hp;obtain⟨q,hq⟩:∃q,q=(Mx.scan c r N (i-r)).2:=⟨_,rfl⟩;rw[<-hq]at HLT HGE hq1;rw[<-hq,show atD (some t)=zI (t:Nat)from rfl];clear hq hp;have hgt:=gl (M:=N) (i:=t) aa;have hxt:=lM hN (show t<N.length by omega) hcn;have S1:=zo (Mx.at' N i c) (bQ (hNB i) aa);have S2:=zo (Mx.at' N t c) (bQ (hNB t) aa);have CM:=Km ((Mx.at' N i c).natAbs:Int) ((Mx.at' N t c).natAbs:Int) (sO (by rw[ed];exact hNB i) aa) (sO (by rw[ed];exact hNB t) aa);have gs:=wA (((Mx.at' N i c).natAbs:Int)-((Mx.at' N t c).natAbs:Int));have hii:(i:Int)=((i:Nat):Int):=rfl;by_cases hlt:(Mx.at' N i c).natAbs<(Mx.at' N t c).natAbs
     ·have HS:=HLT hlt;clear HLT HGE;have hg:=gs.2 aa;by_cases h2q:2<=q;all_goals
       first
       |rw[show decide (2<=q)=true from aB h2q]
       |rw[show decide (2<=q)=false from aF h2q]
       (repeat(first|refine gk fun K hK=>?_|refine aY ?_));refine oX ?_;(repeat(first|refine gk fun K hK=>?_|refine aY ?_))
       refine gY ?_
       (repeat(first|refine gk fun K hK=>?_|refine aY ?_));refine vW ?_;(repeat(first|refine gk fun K hK=>?_|refine aY ?_))
       refine ib ?_
       (repeat(first|refine gk fun K hK=>?_|refine aY ?_));refine ID ?_;(repeat(first|refine gk fun K hK=>?_|refine aY ?_));refine Pt ?_;(repeat(first|refine gk fun K hK=>?_|refine aY ?_))
       refine gY ?_
       (repeat(first|refine gk fun K hK=>?_|refine aY ?_));refine lj ?_;(repeat(first|refine gk fun K hK=>?_|refine aY ?_));refine fJ ?_;(repeat(first|refine gk fun K hK=>?_|refine aY ?_))
       simp only[nx,inB];exact⟨L-(i+1),_,by omega,(aE (sl':=[(1,zI cN),(5, .own 19),(6,zI (r:Nat)),(7,zI (c:Nat)),(8,zI (i:Nat)),(9, .sc (.bool true)),(10,zI ((i+1:Nat):Int))]) (ow':=[(19,⟨113,1,N.map dZ⟩)]) aO aS),i+1,by omega,by omega,rfl,by rw[HS,show decide (2<=q+1)=true from aB aa];rfl⟩
     ·have HS:=HGE hlt;clear HLT HGE;have hg:¬sgn (((Mx.at' N i c).natAbs:Int)-((Mx.at' N t c).natAbs:Int))<0:=fun h=>hlt (by have:=gs.1 h;omega);by_cases h2q:2<=q;all_goals
       first
       |rw[show decide (2<=q)=true from aB h2q]
       |rw[show decide (2<=q)=false from aF h2q]
       (repeat(first|refine gk fun K hK=>?_|refine aY ?_));refine oX ?_;(repeat(first|refine gk fun K hK=>?_|refine aY ?_))
       refine gY ?_
       (repeat(first|refine gk fun K hK=>?_|refine aY ?_));refine vW ?_;(repeat(first|refine gk fun K hK=>?_|refine aY ?_))
       refine ib ?_
       (repeat(first|refine gk fun K hK=>?_|refine aY ?_));refine ID ?_;(repeat(first|refine gk fun K hK=>?_|refine aY ?_));refine Pt ?_;(repeat(first|refine gk fun K hK=>?_|refine aY ?_))
       refine ib ?_
       (repeat(first|refine gk fun K hK=>?_|refine aY ?_));refine fJ ?_;(repeat(first|refine gk fun K hK=>?_|refine aY ?_))
       simp only[nx,inB];exact⟨L-(i+1),_,by omega,(aE (sl':=[(1,zI cN),(5, .own 19),(6,zI (r:Nat)),(7,zI (c:Nat)),(8,zI (t:Nat)),(9, .sc (.bool true)),(10,zI ((i+1:Nat):Int))]) (ow':=[(19,⟨113,1,N.map dZ⟩)]) aO aS),i+1,by omega,by omega,rfl,by rw[HS,show decide (2<=q+1)=true from aB aa];rfl⟩
  ·obtain rfl:i=L:=by omega
   have hpk:Mx.pick r c N=Mx.scan c r N (i-r):=by unfold Mx.pick;rw[hNL]
   cases hp:(Mx.scan c r N (i-r)).1 with
   |none=>
    have eN:N=Mc:=by rw[<-hNc,Mx.vJ (by rw[hpk];exact hp)]
    rw[<-eN]at TAIL;rw[show atD none=zI (-1)from rfl]
    (repeat(first|refine gk fun K hK=>?_|refine aY ?_));refine oX ?_;(repeat(first|refine gk fun K hK=>?_|refine aY ?_))
    refine ib ?_
    (repeat(first|refine gk fun K hK=>?_|refine aY ?_));refine iZ ?_;(repeat(first|refine gk fun K hK=>?_|refine aY ?_))
    refine gY ?_
    (refine av (aE (sl':=[(1,zI cN),(5, .own 19),(6,zI (r:Nat)),(7,zI (c:Nat))]) (ow':=[(19,⟨113,1,N.map dZ⟩)]) aO aS) ?_)
    (repeat(first|refine gk fun K hK=>?_|refine aY ?_))
    all_goals((simp only[nx,inB,ite_true,ite_false,↓reduceIte,Nat.reduceEqDiff,reduceCtorEq]);apply_assumption-exfalso)
   |some t=>
    have HT:=(Mx.gC c r N (i-r)).yes t hp;have htL:t<i:=by have:=HT.2.1;omega
    have htz:=HT.2.2.1;have hq1:1<=(Mx.scan c r N (i-r)).2:=HT.2.2.2.2.1;clear HT;have hp':(Mx.pick r c N).1=some t:=by rw[hpk];exact hp
    have ONE:=Mx.yg (r:=r) (c:=c) (M:=N) hp';have STP:=Mx.vI hN hp';have MEA:=Mx.ln hN hp';have JST:=Mx.Bg hN hJ hp';rw[hpk]at ONE STP MEA JST;obtain⟨q,hq⟩:∃q,q=(Mx.scan c r N (i-r)).2:=⟨_,rfl⟩;rw[<-hq]at hq1 ONE STP MEA JST;rw[<-hq,show atD (some t)=zI (t:Nat)from rfl];clear hq hp hp' hpk;have hgr:=gl (M:=N) (i:=r) aa;have hgt:=gl (M:=N) (i:=t) aa;have hsm:=Rr N r t;have hrr':(r:Int)=((r:Nat):Int):=rfl;have htt':(t:Int)=((t:Nat):Int):=rfl
    (repeat(first|refine gk fun K hK=>?_|refine aY ?_));refine oX ?_;(repeat(first|refine gk fun K hK=>?_|refine aY ?_))
    refine ib ?_
    (repeat(first|refine gk fun K hK=>?_|refine aY ?_));refine iZ ?_;(repeat(first|refine gk fun K hK=>?_|refine aY ?_))
    refine ib ?_
    (repeat(first|refine gk fun K hK=>?_|refine aY ?_));refine mH ?_;refine gF ?_;refine gF ?_;refine gF ?_;refine gF ?_;refine gF ?_;refine gF ?_;refine tv ?_;refine fT ?_;refine gF ?_;refine gF ?_;refine tv ?_;refine fT ?_;refine tv ?_;(refine Bu (i:=r) rfl rfl rfl cO cO aH aj tz aj dC aj ah tA ?_);refine tv ?_;(refine Bu (i:=t) rfl rfl rfl cO cO aH aj tz aj dC aj ah tA ?_);refine kB ?_;(repeat(first|refine gk fun K hK=>?_|refine aY ?_))
    (refine av (aE (sl':=[(1,zI cN),(5, .own 19),(6,zI (r:Nat)),(7,zI (c:Nat)),(9, .sc (.bool (decide (2<=q))))]) (ow':=[(19,⟨113,1,((N.map dZ).set r (dZ (Mx.rw N t))).set t (dZ (Mx.rw N r))⟩)]) aO aS) ?_)
    rw[hsm];by_cases hq2:q=1
    ·have eN:Mx.swp N r t=Mc:=by rw[<-hNc,ONE hq2]
     rw[<-eN]at TAIL
     (repeat(first|refine gk fun K hK=>?_|refine aY ?_));refine vV ?_;(repeat(first|refine gk fun K hK=>?_|refine aY ?_))
     refine gY ?_
     (refine av (aE (sl':=[(1,zI cN),(5, .own 19),(6,zI (r:Nat)),(7,zI (c:Nat))]) (ow':=[(19,⟨113,1,(Mx.swp N r t).map dZ⟩)]) aO aS) ?_)
     (repeat(first|refine gk fun K hK=>?_|refine aY ?_))
     all_goals((simp only[nx,inB,ite_true,ite_false,↓reduceIte,Nat.reduceEqDiff,reduceCtorEq]);apply_assumption-exfalso)
    ·have HE:=(STP hq2).symm.trans hNc;obtain⟨hrN,htN,hrt,hmeas⟩:=MEA hq2;obtain⟨hJB,hJ2⟩:=JST hq2;clear STP MEA JST ONE hsm hgr hgt;have hSR:=Mx.mT hN hrN htN;have hSL:(Mx.swp N r t).length=i:=by rw[Mx.eu];exact hNL
     have hpiv:Mx.at' (Mx.swp N r t) r c≠0:=by
      rw[Mx.dn hrN htN];split
      ·rename_i e;rw[e];exact htz
      ·rw[an rfl];exact htz
     unfold Mx.elim at HE hmeas hJ2;rw[hNL]at hJB;rw[hSL]at HE hmeas hJ2;obtain⟨S,hS⟩:∃S,S=Mx.swp N r t:=⟨_,rfl⟩;rw[<-hS]at HE hmeas hJ2 hSR hSL hpiv hJB;rw[<-hS];clear hS TAIL
     (repeat(first|refine gk fun K hK=>?_|refine aY ?_));refine vV ?_;(repeat(first|refine gk fun K hK=>?_|refine aY ?_))
     refine ib ?_
     (repeat(first|refine gk fun K hK=>?_|refine aY ?_));refine fJ ?_;(repeat(first|refine gk fun K hK=>?_|refine aY ?_))
     (refine av (aE (sl':=[(1,zI cN),(5, .own 19),(6,zI (r:Nat)),(7,zI (c:Nat)),(11,zI ((r+1:Nat):Int))]) (ow':=[(19,⟨113,1,S.map dZ⟩)]) aO aS) ?_)
     refine bB (fun k s=>∃j,r+1<=j/\j<=i/\k=i-j/\s=⟨[(1,zI cN),(5, .own 19),(6,zI (r:Nat)),(7,zI (c:Nat)),(11,zI (j:Nat))],[(19,⟨113,1,(Mx.bp r c (r+1) S (j-(r+1))).map dZ⟩)]⟩) (m:=i-(r+1)) ⟨r+1,af _,by omega,rfl,by rw[gh];rfl⟩ fun k s hs=>?_;obtain⟨j,hrj,hji,rfl,rfl⟩:=hs;by_cases hj:j<i
     ·have HNX : Mx.bp r c (r + 1) S (j + 1 - (r + 1)) = (Mx.bp r c (r + 1) S (j - (r + 1))).set j (Mx.eF (Mx.rw (Mx.bp r c (r + 1) S (j - (r + 1))) r) c (Mx.rw (Mx.bp r c (r + 1) S (j - (r + 1))) j)) := by
       rw[show j+1-(r+1)=(j-(r+1))+1 by omega,Mx.nn aa (by rw[hSL];omega),show r+1+(j-(r+1))=j by omega]
      have hpn:Mx.at' (Mx.bp r c (r+1) S (j-(r+1))) r c≠0:=by
       unfold Mx.at';rw[Mx.fQ r c (r+1) S (j-(r+1)) (by rw[hSL];omega) r,ai aa];exact hpiv
      have hBN:=(hJB (j-(r+1)) aa).mono hKE;have hRN:Mx.Rc n (Mx.bp r c (r+1) S (j-(r+1))):=Mx.nV hSR aa _ aa;have hLN:(Mx.bp r c (r+1) S (j-(r+1))).length=i:=by rw[Mx.ep];exact hSL
      obtain⟨A,hA⟩:∃A,A=Mx.bp r c (r+1) S (j-(r+1)):=⟨_,rfl⟩;rw[<-hA]at HNX hpn hBN hRN hLN;rw[<-hA];clear hA hJB hJ2 hmeas HE;have hgj:=gl (M:=A) (i:=j) aa;have hgr:=gl (M:=A) (i:=r) aa;have hxj:=lM hRN (show j<A.length by omega) hcn;have hxr:=lM hRN (show r<A.length by omega) hcn;have DM:=yd (Mx.at' A j c) (Mx.at' A r c) (bQ (hBN j c) aa) (bQ (hBN r c) aa) hpn;have TK:=Dx (c:=c) hRN (show j<A.length by omega) (show r<A.length by omega) hn hBN hEf;have hjj:(j:Int)=((j:Nat):Int):=rfl
      (repeat(first|refine gk fun K hK=>?_|refine aY ?_));refine oX ?_;(repeat(first|refine gk fun K hK=>?_|refine aY ?_))
      refine gY ?_
      (repeat(first|refine gk fun K hK=>?_|refine aY ?_));(refine vM [12,13] ah zb21 ?_);refine yr ?_;refine yr ?_;refine qH ?_;refine gF ?_;refine kC ?_;refine kC ?_;refine kC ?_;(refine nY (k:=12) (z:=(.agg #[.bool false, .slice none 0 0])) (d:=(.nm 0)) rfl rfl rfl rfl rfl ah aj aj dC aj aj ?_);(refine nY (k:=13) (z:=(.agg #[.bool false, .slice none 0 0])) (d:=(.nm 0)) rfl rfl rfl rfl rfl ah aj aj dC aj aj ?_);refine jC ?_;refine jC ?_;refine oZ ?_;refine kB ?_;(repeat(first|refine gk fun K hK=>?_|refine aY ?_))
      (refine av (aE (sl':=[(1,zI cN),(5, .own 19),(6,zI (r:Nat)),(7,zI (c:Nat)),(11,zI (j:Nat)),(12, .opt 12 0)]) (ow':=[(12,⟨62,2,[.nm (Mx.at' A j c/Mx.at' A r c)]⟩),(19,⟨113,1,A.map dZ⟩)]) aO aS) ?_)
      (repeat(first|refine gk fun K hK=>?_|refine aY ?_));refine Pv ?_;(repeat(first|refine gk fun K hK=>?_|refine aY ?_));refine fJ ?_;(repeat(first|refine gk fun K hK=>?_|refine aY ?_))
      simp only[nx,inB];exact⟨i-(j+1),_,by omega,(aE (sl':=[(1,zI cN),(5, .own 19),(6,zI (r:Nat)),(7,zI (c:Nat)),(11,zI ((j+1:Nat):Int))]) (ow':=[(19,⟨113,1,(A.map dZ).set j (dZ (Mx.eF (Mx.rw A r) c (Mx.rw A j)))⟩)]) aO aS),j+1,by omega,by omega,rfl,by rw[HNX,oA]⟩
     ·obtain rfl:j=i:=by omega
      have hLN:(Mx.bp r c (r+1) S (j-(r+1))).length=j:=by rw[Mx.ep];exact hSL
      (repeat(first|refine gk fun K hK=>?_|refine aY ?_));refine oX ?_;(repeat(first|refine gk fun K hK=>?_|refine aY ?_))
      refine ib ?_
      (repeat(first|refine gk fun K hK=>?_|refine aY ?_))
      simp only[nx,inB];exact⟨_,_,hmeas,(aE (sl':=[(1,zI cN),(5, .own 19),(6,zI (r:Nat)),(7,zI (c:Nat))]) (ow':=[(19,⟨113,1,(Mx.bp r c (r+1) S (j-(r+1))).map dZ⟩)]) aO aS),_,rfl,Mx.nV hSR aa (j-(r+1)) aa,by rw[Mx.ep];exact hSL,hJ2,HE,rfl⟩
 ·have eT : T.2 = M := by
   by_cases h1:c<cN
   ·rw[Mx.tV aa]at hT;rw[<-hT]
   ·rw[show cN-c=0 by omega]at hT;rw[<-hT];rfl
  by_cases h1:c<cN
  ·have hd1:decide ((c:Int)<(cN:Int))=true:=aB aa
   (repeat(first|refine gk fun K hK=>?_|refine aY ?_));refine IE ?_;(repeat(first|refine gk fun K hK=>?_|refine aY ?_))
   refine ib ?_
   (repeat(first|refine gk fun K hK=>?_|refine aY ?_))
   refine av (ao (k:=19) aH aR aQ) ?_;refine lj ?_
   (repeat(first|refine gk fun K hK=>?_|refine aY ?_))
   rw[eT];exact⟨_,Sh.refl, .one (.tmp 4) _ rfl (.tmp 4 rfl)⟩
  ·have hd1:decide ((c:Int)<(cN:Int))=false:=aF aa
   (repeat(first|refine gk fun K hK=>?_|refine aY ?_));refine IE ?_;(repeat(first|refine gk fun K hK=>?_|refine aY ?_))
   refine ib ?_
   (repeat(first|refine gk fun K hK=>?_|refine aY ?_))
   refine av (ao (k:=19) aH aR aQ) ?_;refine lj ?_
   (repeat(first|refine gk fun K hK=>?_|refine aY ?_))
   rw[eT];exact⟨_,Sh.refl, .one (.tmp 4) _ rfl (.tmp 4 rfl)⟩
end DW
end
end Go.Proofs.YtcgjmdpcplhanaaGreat
