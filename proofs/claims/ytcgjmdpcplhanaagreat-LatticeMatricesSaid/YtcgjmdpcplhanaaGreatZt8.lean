/- Lemmas for the law: E14 -/
import Derived.Test.YtcgjmdpcplhanaaGreatZt7
namespace Go.Proofs.YtcgjmdpcplhanaaGreat
section
theorem zb42{p:Prop}(h:p:=by(apply rP;(exact rfl);(exact bq);(exact rfl);(assumption);(exact rfl))):p:=h
theorem kW{p q:Prop}(h:q)(f:Wq q->p:=by(intro hW;((first|(first|(refine aHs rfl rfl rfl rfl rfl ?_ ?_;(focus(apply aQ;(conv=>lhs;whnf);(first|done|exact rfl|(apply aI;(first|(apply decide_eq_true;omega)|(apply decide_eq_false;omega)|assumption|(simp;done)))))))|refine mj rfl rfl rfl rfl rfl bI aa zb1 aa aa ?_)|((try refine av ?_);(first|(refine aLs rfl rfl rfl rfl ?_ ?_;(focus(apply aQ;(conv=>lhs;whnf);(first|done|exact rfl|(apply aI;(first|(apply decide_eq_true;omega)|(apply decide_eq_false;omega)|assumption|(simp;done)))))))|refine aLw rfl rfl rfl rfl bI zb1 ?_))));exact hW.out)):p:=f ⟨h⟩
theorem zs94{p q:Prop}(h:q)(f:Wq q->p:=by(intro hW;(((try refine av ?_);(refine je (i:=j) rfl rfl rfl bu bu aR aa lk aa dK aa ae ll ?_)));exact hW.out)):p:=f ⟨h⟩
theorem zb16{p:Prop}(h:p:=by(apply rO;(exact rfl);(focus((apply ak;(conv=>lhs;whnf);(first|done|exact rfl))));(focus((apply ak;(conv=>lhs;whnf);(first|done|exact rfl))));(focus((apply ak;(conv=>lhs;whnf);(first|done|exact rfl))));(exact rfl);(exact rfl);(exact rfl);(assumption);(exact rfl))):p:=h
theorem zs93{p q:Prop}(h:q)(f:Wq q->p:=by(intro hW;((first|refine cr rfl rfl rfl aa zb16 aa aa ?_|((try refine av ?_);refine aL1 rfl rfl rfl zb16 ?_)));exact hW.out)):p:=f ⟨h⟩
theorem Cz{p q:Prop}(h:q)(f:Wq q->p:=by(intro hW;((refine zs81 ?_;refine aZ ?_;refine aZ ?_;refine aZ ?_;refine aZ ?_;refine fY ?_;refine bR ?_;refine aZ ?_;refine aZ ?_;refine fY ?_;refine bR ?_;refine bR ?_;refine zs93 ?_;refine fY ?_;refine zs94 ?_;refine eA ?_));exact hW.out)):p:=f ⟨h⟩
theorem Db{p q:Prop}(h:q)(f:Wq q->p:=by(intro hW;((first|refine cr rfl rfl rfl aa zb6 aa aa ?_|((try refine av ?_);refine aL1 rfl rfl rfl zb6 ?_)));exact hW.out)):p:=f ⟨h⟩
theorem zs96{p q:Prop}(h:q)(f:Wq q->p:=by(intro hW;((first|refine cr rfl rfl rfl aa qS aa aa ?_|((try refine av ?_);refine aL1 rfl rfl rfl qS ?_)));exact hW.out)):p:=f ⟨h⟩
theorem Dc{p q:Prop}(h:q)(f:Wq q->p:=by(intro hW;((first|(first|(refine aHs rfl rfl rfl rfl rfl ?_ ?_;(focus(apply aQ;(conv=>lhs;whnf);(first|done|exact rfl|(apply aI;(first|(apply decide_eq_true;omega)|(apply decide_eq_false;omega)|assumption|(simp;done)))))))|refine mj rfl rfl rfl rfl rfl bI aa qS aa aa ?_)|((try refine av ?_);(first|(refine aLs rfl rfl rfl rfl ?_ ?_;(focus(apply aQ;(conv=>lhs;whnf);(first|done|exact rfl|(apply aI;(first|(apply decide_eq_true;omega)|(apply decide_eq_false;omega)|assumption|(simp;done)))))))|refine aLw rfl rfl rfl rfl bI qS ?_))));exact hW.out)):p:=f ⟨h⟩
theorem zb20{p:Prop}(h:p:=by(apply lO;(focus((apply lO;(exact mU);(focus((repeat(first|exact lL|(apply jP;(exact rfl))|(apply lM;(exact rfl)))))))));(focus((repeat(first|exact lL|(apply jP;(exact rfl))|(apply lM;(exact rfl)))))))):p:=h
theorem zb67{p:Prop}(h:p:=by first|(apply dn;assumption)|exact rfl):p:=h
theorem iJ{p q:Prop}(h:q)(f:Wq q->p:=by(intro hW;((first|refine aN1 rfl rfl rfl zb4 ?_|refine rX rfl rfl rfl rfl bu bu aR ae ae (by first|omega|(simp;omega)) zb67 ?_|refine jG rfl rfl rfl zb4 ?_));exact hW.out)):p:=f ⟨h⟩
theorem Cy{p q:Prop}(h:q)(f:Wq q->p:=by(intro hW;((refine gar ?_;refine zs4 ?_;refine zs4 ?_;refine eI ?_;refine bs ?_;refine zs4 ?_;refine eI ?_;refine bs ?_;refine cw ?_;refine zs7 ?_;refine af ?_));exact hW.out)):p:=f ⟨h⟩
theorem zs89{p q:Prop}(h:q)(f:Wq q->p:=by(intro hW;((first|refine aN1 rfl rfl rfl mD ?_|refine jG rfl rfl rfl mD ?_));exact hW.out)):p:=f ⟨h⟩
theorem zb11{p:Prop}(h:p:=by(apply(GY (zv:=(.agg #[.bool false,.slice none 0 0])) (d0:=(.nm 0)) (wd:=2));(exact rfl);(focus((apply ak;(conv=>lhs;whnf);(first|done|exact rfl))));(focus((apply ak;(conv=>lhs;whnf);(first|done|exact rfl))));(kernel_rfl);(kernel_rfl);(exact rfl);(exact rfl);(exact rfl);(exact rfl);(exact rfl);(omega);(focus(first|exact Int.toNat_natCast _|exact rfl)))):p:=h
theorem zb25{p:Prop}(h:p:=by(apply jd;(exact rfl);(focus((apply ak;(conv=>lhs;whnf);(first|done|exact rfl))));(focus((apply ak;(conv=>lhs;whnf);(first|done|exact rfl))));(exact rfl);(exact rfl);(focus((first|exact fail)));(exact rfl))):p:=h
theorem sY{p q:Prop}(h:q)(f:Wq q->p:=by(intro hW;((refine gar ?_;refine zs4 ?_;refine zs85 ?_;refine af ?_));exact hW.out)):p:=f ⟨h⟩
theorem zs92{p q:Prop}(h:q)(f:Wq q->p:=by(intro hW;((first|refine aN1 rfl rfl rfl tT ?_|refine jG rfl rfl rfl tT ?_));exact hW.out)):p:=f ⟨h⟩
theorem zs95{p q:Prop}(h:q)(f:Wq q->p:=by(intro hW;((first|(apply ah 21;(focus kernel_rfl);(decide+kernel))|(apply ah 20;(focus kernel_rfl);(decide+kernel))|(apply ah 19;(focus kernel_rfl);(decide+kernel))|(apply ah 18;(focus kernel_rfl);(decide+kernel))|(apply ah 17;(focus kernel_rfl);(decide+kernel))|(apply ah 16;(focus kernel_rfl);(decide+kernel))|(apply ah 15;(focus kernel_rfl);(decide+kernel))|(apply ah 14;(focus kernel_rfl);(decide+kernel)));simp only[List.take_succ_cons,List.take_zero,List.drop_succ_cons,List.drop_zero]);exact hW.out)):p:=f ⟨h⟩
theorem cG{p q:Prop}(h:q)(f:Wq q->p:=by(intro hW;((first|refine aN1 rfl rfl rfl mB ?_|refine jG rfl rfl rfl mB ?_));exact hW.out)):p:=f ⟨h⟩
theorem nq{p q:Prop}(h:q)(f:Wq q->p:=by(intro hW;((refine gar ?_;refine zs4 ?_;refine zs4 ?_;refine eI ?_;refine bs ?_;refine zs4 ?_;refine eI ?_;refine bs ?_;refine cw ?_;refine mA ?_;refine af ?_));exact hW.out)):p:=f ⟨h⟩
theorem zb33{p:Prop}(h:p:=by(apply rP;(exact rfl);(focus((apply ak;(conv=>lhs;whnf);(first|done|exact rfl))));(exact rfl);(focus((first|exact fail)));(exact rfl))):p:=h
theorem Dd{p q:Prop}(h:q)(f:Wq q->p:=by(intro hW;((first|(first|(refine aHs rfl rfl rfl rfl rfl ?_ ?_;(focus(apply aQ;(conv=>lhs;whnf);(first|done|exact rfl|(apply aI;(first|(apply decide_eq_true;omega)|(apply decide_eq_false;omega)|assumption|(simp;done)))))))|refine mj rfl rfl rfl rfl rfl bI aa zb33 aa aa ?_)|((try refine av ?_);(first|(refine aLs rfl rfl rfl rfl ?_ ?_;(focus(apply aQ;(conv=>lhs;whnf);(first|done|exact rfl|(apply aI;(first|(apply decide_eq_true;omega)|(apply decide_eq_false;omega)|assumption|(simp;done)))))))|refine aLw rfl rfl rfl rfl bI zb33 ?_))));exact hW.out)):p:=f ⟨h⟩
theorem xf{p q:Prop}(h:q)(f:Wq q->p:=by(intro hW;((refine gar ?_;refine zs4 ?_;refine zs4 ?_;refine zs8 ?_;refine kX ?_;refine kY ?_;refine zs6 ?_;refine af ?_));exact hW.out)):p:=f ⟨h⟩
theorem mq{p q:Prop}(h:q)(f:Wq q->p:=by(intro hW;((first|(first|(refine aHs rfl rfl rfl rfl rfl ?_ ?_;(focus(apply aQ;(conv=>lhs;whnf);(first|done|exact rfl|(apply aI;(first|(apply decide_eq_true;omega)|(apply decide_eq_false;omega)|assumption|(simp;done)))))))|refine mj rfl rfl rfl rfl rfl bI aa zb4 aa aa ?_)|((try refine av ?_);(first|(refine aLs rfl rfl rfl rfl ?_ ?_;(focus(apply aQ;(conv=>lhs;whnf);(first|done|exact rfl|(apply aI;(first|(apply decide_eq_true;omega)|(apply decide_eq_false;omega)|assumption|(simp;done)))))))|refine aLw rfl rfl rfl rfl bI zb4 ?_))));exact hW.out)):p:=f ⟨h⟩
theorem tg{p q:Prop}(h:q)(f:Wq q->p:=by(intro hW;((first|(first|(refine aHs rfl rfl rfl rfl rfl ?_ ?_;(focus(apply aQ;(conv=>lhs;whnf);(first|done|exact rfl|(apply aI;(first|(apply decide_eq_true;omega)|(apply decide_eq_false;omega)|assumption|(simp;done)))))))|refine mj rfl rfl rfl rfl rfl bI aa mC aa aa ?_)|((try refine av ?_);(first|(refine aLs rfl rfl rfl rfl ?_ ?_;(focus(apply aQ;(conv=>lhs;whnf);(first|done|exact rfl|(apply aI;(first|(apply decide_eq_true;omega)|(apply decide_eq_false;omega)|assumption|(simp;done)))))))|refine aLw rfl rfl rfl rfl bI mC ?_))));exact hW.out)):p:=f ⟨h⟩
theorem Da{p q:Prop}(h:q)(f:Wq q->p:=by(intro hW;((first|(first|(refine aHs rfl rfl rfl rfl rfl ?_ ?_;(focus(apply aQ;(conv=>lhs;whnf);(first|done|exact rfl|(apply aI;(first|(apply decide_eq_true;omega)|(apply decide_eq_false;omega)|assumption|(simp;done)))))))|refine mj rfl rfl rfl rfl rfl bI aa mD aa aa ?_)|((try refine av ?_);(first|(refine aLs rfl rfl rfl rfl ?_ ?_;(focus(apply aQ;(conv=>lhs;whnf);(first|done|exact rfl|(apply aI;(first|(apply decide_eq_true;omega)|(apply decide_eq_false;omega)|assumption|(simp;done)))))))|refine aLw rfl rfl rfl rfl bI mD ?_))));exact hW.out)):p:=f ⟨h⟩
theorem gO{p q:Prop}(h:q)(f:Wq q->p:=by(intro hW;((first|(first|(refine aHs rfl rfl rfl rfl rfl ?_ ?_;(focus(apply aQ;(conv=>lhs;whnf);(first|done|exact rfl|(apply aI;(first|(apply decide_eq_true;omega)|(apply decide_eq_false;omega)|assumption|(simp;done)))))))|refine mj rfl rfl rfl rfl rfl bI aa mB aa aa ?_)|((try refine av ?_);(first|(refine aLs rfl rfl rfl rfl ?_ ?_;(focus(apply aQ;(conv=>lhs;whnf);(first|done|exact rfl|(apply aI;(first|(apply decide_eq_true;omega)|(apply decide_eq_false;omega)|assumption|(simp;done)))))))|refine aLw rfl rfl rfl rfl bI mB ?_))));exact hW.out)):p:=f ⟨h⟩
theorem Cx{p q:Prop}(h:q)(f:Wq q->p:=by(intro hW;((refine zs95 ?_;refine aZ ?_;refine zs96 ?_;refine aZ ?_;refine gO ?_;refine gO ?_;refine mq ?_;refine kW ?_;refine gO ?_;refine mq ?_;refine kW ?_;refine tg ?_;refine gO ?_;refine gO ?_;refine mq ?_;refine kW ?_;refine gO ?_;refine mq ?_;refine kW ?_;refine tg ?_;refine Da ?_;refine Dc ?_;refine Db ?_;refine eA ?_));exact hW.out)):p:=f ⟨h⟩
theorem tD{p q:Prop}(h:q)(f:Wq q->p:=by(intro hW;((refine rV (i:=0) rfl rfl rfl bu bu aR aa lk aa dK aa ae ll ?_));exact hW.out)):p:=f ⟨h⟩
theorem kd{p q:Prop}(h:q)(f:Wq q->p:=by(intro hW;((first|refine aN1 rfl rfl rfl zb1 ?_|refine jG rfl rfl rfl zb1 ?_));exact hW.out)):p:=f ⟨h⟩
theorem qF{p q:Prop}(h:q)(f:Wq q->p:=by(intro hW;((first|refine aN1 rfl rfl rfl zb39 ?_|refine jG rfl rfl rfl zb39 ?_));exact hW.out)):p:=f ⟨h⟩
theorem xg{p q:Prop}(h:q)(f:Wq q->p:=by(intro hW;((refine gar ?_;refine zs4 ?_;refine zs4 ?_;refine lh ?_;refine zs4 ?_;refine zs8 ?_;refine zs8 ?_;refine kZ ?_;refine zs60 ?_;refine gg ?_;refine af ?_));exact hW.out)):p:=f ⟨h⟩
end
section
open Go.RowKit
namespace DW
def atD:Option Nat->D
 |none=>zI (-1)
 |some t=>zI (t:Nat)
theorem dE{M:Mx.Mat}{i:Nat}(h:i<M.length):M[i]?=some (Mx.rw M i):=by
 unfold Mx.rw;rw[List.getD_eq_getElem?_getD,List.getElem?_eq_getElem h];rfl
theorem iI{M:Mx.Mat}{n i c:Nat}(hM:Mx.Rc n M)(h:i<M.length)(hc:c<n):(Mx.rw M i)[c]?=some (Mx.at' M i c):=by
 unfold Mx.at';rw[List.getD_eq_getElem?_getD,List.getElem?_eq_getElem (by rw[hM.rw h];exact hc)];rfl
theorem GN{z:Int}{e k:Nat}(h:z.natAbs<=2^e)(he:e<16*k):(hd z.natAbs).length<=k:=fT (by
 have h1:(65536:Nat)^k=2^(16*k):=by rw[show(65536:Nat)=2^16 by rfl,<-Nat.pow_mul]
 rw[h1];exact Nat.lt_of_le_of_lt h (Nat.pow_lt_pow_right (by omega) he))
theorem oA(z:Int):sgn z=0↔z=0:=by unfold sgn;split<;>(try split)<;>omega
theorem nL{z:Int}{e:Nat}(h:z.natAbs<=2^e)(he:e<=3000000000):(hd z.natAbs).length<=199999999:=GN h (by omega)
theorem bC{z:Int}{e:Nat}(h:z.natAbs<=2^e)(he:e<=3000000000):Hf z:=Nat.le_trans (nL h he) (by decide)
theorem ua{N:Mx.Mat}{n i r c E:Nat}(hN:Mx.Rc n N)(hi:i<N.length)(hr:r<N.length)(hn:n<=1000)(hb:Mx.Bd (2^E) N)(hE:2*E<=3000000000):Fn Tryz.prog 149 [dZ (Mx.rw N i),dZ (Mx.rw N r),.nm (Mx.at' N i c/Mx.at' N r c)] (dZ (Mx.bN (Mx.rw N r) c (Mx.rw N i))):=by
 have hm:∀{i:Nat} {x:Int},x∈Mx.rw N i->x.natAbs<=2^E:=fun {i x} hx=>by
  obtain⟨j,hj,e⟩:=List.getElem_of_mem hx;have:=hb i j;unfold Mx.at' at this;rw[List.getD_eq_getElem?_getD,List.getElem?_eq_getElem hj,e]at this;exact this
 have hq:(Mx.at' N i c/Mx.at' N r c).natAbs<=2^E:=Nat.le_trans (Mx.fV _ _) (hb i c);refine zh (Mx.rw N i) (Mx.rw N r) _ (by rw[hN.rw hi,hN.rw hr]) (by rw[hN.rw hi];omega) (fun x hx=>bC (hm hx) (by omega)) (fun y hy=>⟨bC (hm hy) (by omega),bC (e:=E+E) ?_ (by omega)⟩) (bC hq (by omega));rw[Int.natAbs_mul,Nat.pow_add];exact Nat.mul_le_mul hq (hm hy)
theorem Ee(N:Mx.Mat)(r t:Nat):((N.map dZ).set r (dZ (Mx.rw N t))).set t (dZ (Mx.rw N r))=(Mx.swp N r t).map dZ:=by
 unfold Mx.swp;rw[List.map_set,List.map_set]
set_option maxRecDepth 20000
set_option maxHeartbeats 2000000
theorem Au(m:Mx.Mat)(n cN e p:Nat)(hR:Mx.Rc n m)(hc:cN<=n)(hn:n<=1000)(hm:m.length<=1000)(he:6<=e)(hp:m.length<=p\/cN<=p)(hf:2*(e*11^p)<=3000000000)(hb:Mx.Bd (2^e) m):
  Fn Tryz.prog 78 [dW m,zI cN] (dW (Mx.red cN 0 (0,m)).2):=by
 obtain⟨T,hT⟩:∃T,T=Mx.red cN 0 (0,m):=⟨_,rfl⟩;rw[<-hT];obtain⟨L,hL⟩:∃L,L=m.length:=⟨_,rfl⟩;rw[<-hL]at hp;refine aY Tryz.func78 ae rfl rfl rfl fun X0=>?_;simp only[aK]
 (repeat(first|refine gk fun K hK=>?_|refine zs2 ?_));refine cL ?_;(repeat(first|refine gk fun K hK=>?_|refine zs2 ?_));(refine gar ?_;(refine wM (k:=19) (wd:=1) (T:=Tryz.prog.elem 27) rfl rfl rfl rfl ae ae aa aa cM ?_);refine zs4 ?_;(refine nn rfl rfl rfl rfl bu bu aR aa tU ae ae (by(simp only[List.length_map,List.length_nil];omega)) cM tS ?_);refine zs6 ?_;refine af ?_);(repeat(first|refine gk fun K hK=>?_|refine zs2 ?_));refine aX ?_;(repeat(first|refine gk fun K hK=>?_|refine zs2 ?_));refine aX ?_;(repeat(first|refine gk fun K hK=>?_|refine zs2 ?_))
 (refine az (au (sl':=[(1,zI cN),(5, .own 19),(6,zI 0),(7,zI 0)]) (ow':=[(19,⟨113,1,m.map dZ⟩)]) ay aD) ?_)
 refine aV (fun k s=>∃r c M,k=cN-c/\c<=cN/\Mx.Rc n M/\M.length=L/\(r<=L/\r<=c)/\Mx.red (cN-c) c (r,M)=T/\Mx.Bd (2^(e*11^r)) M/\s=⟨[(1,zI cN),(5, .own 19),(6,zI (r:Nat)),(7,zI (c:Nat))],[(19,⟨113,1,M.map dZ⟩)]⟩) (m:=cN) ⟨0,0,m,rfl,Nat.zero_le _,hR,hL.symm,⟨Nat.zero_le _,Nat.zero_le _⟩,hT.symm,by rw[Nat.pow_zero,Nat.mul_one];exact hb,rfl⟩ fun k s hs=>?_;clear hT hb;obtain⟨r,c,M,rfl,hcN,hM,hML,hr,hT,hb,rfl⟩:=hs;by_cases hgo:c<cN/\r<L
 ·obtain⟨hcc,hrr⟩:=hgo;have hd1:decide ((c:Int)<(cN:Int))=true:=decide_eq_true (by omega);have hcn:c<n:=by omega
  (repeat(first|refine gk fun K hK=>?_|refine zs2 ?_));refine xg ?_;(repeat(first|refine gk fun K hK=>?_|refine zs2 ?_))
  refine aA ?_
  (repeat(first|refine gk fun K hK=>?_|refine zs2 ?_))
  obtain⟨X,hX⟩:∃X,X=2^(e*11^r):=⟨_,rfl⟩;obtain⟨K0,hK0⟩:∃K0,K0=6*X^5:=⟨_,rfl⟩;obtain⟨E,hE⟩:∃E,E=e*11^(r+1):=⟨_,rfl⟩;obtain⟨Mc,hMc⟩:∃Mc,Mc=Mx.bQ r c M:=⟨_,rfl⟩;have hEf:2*E<=3000000000:=Nat.le_trans (Nat.mul_le_mul_left 2 (by rw[hE];exact Nat.mul_le_mul_left e (Nat.pow_le_pow_right (by omega) (by omega)))) hf;have hX1:1<=X:=by rw[hX];exact Nat.pow_pos (by omega)
  have hnb:K0*(K0+1)<=2^E:=by
   have h1:6<=e*11^r:=Nat.le_trans he (Nat.le_mul_of_pos_right _ (Nat.pow_pos (by omega)));have h2:=Mx.pO h1;rw[Mx.e11,<-hX,<-hE]at h2;rw[hK0];exact h2
  have hKE:K0<=2^E:=Nat.le_trans (Nat.le_mul_of_pos_right _ (by omega)) hnb;rw[<-hX]at hb;have hJ:Mx.Jn K0 r c M:= .inl ⟨X,hX1,hb,by rw[hK0];exact Nat.le_refl _⟩;have hcl:=(Mx.lZ (r:=r) (c:=c) hM).1.re;have hMcR:Mx.Rc n Mc:=by rw[hMc];exact hcl.rc hM
  have hMcL:Mc.length=L:=by rw[hMc,hcl.len];exact hML
  have hMcB:Mx.Bd K0 Mc:=by rw[hMc];exact Mx.rQ hM hJ
  have hB0:Mx.at' Mc r c=0->Mx.Bd (2^(e*11^r)) Mc:=fun h0=>by
   rw[hMc]at h0⊢;rw[(Mx.AF (r:=r) (c:=c) hM).resolve_right (fun hh=>hh h0),<-hX];exact hb
  clear hcl hX hK0 hX1;have TAIL:K ⟨[(1,zI cN),(5, .own 19),(6,zI (r:Nat)),(7,zI (c:Nat))],[(19,⟨113,1,Mc.map dZ⟩)]⟩:=by
   apply hK;have hrM:r<Mc.length:=by omega
   have hgr:=dE hrM;have hxr:=iI hMcR hrM hcn;have SX:=kK (Mx.at' Mc r c) (bC (Nat.le_trans (hMcB r c) hKE) (by omega));have gx:=oA (Mx.at' Mc r c);have gn:=rp (Mx.at' Mc r c);have hT1:Mx.red (cN-(c+1)) (c+1) (Mx.step r c M)=T:=by
    rw[<-hT,show cN-c=cN-(c+1)+1 by omega,Mx.uv (by omega)]
   by_cases h0:Mx.at' Mc r c=0
   ·have eS : Mx.step r c M = (r, Mc) := by
     unfold Mx.step;simp only[];rw[<-hMc,if_pos h0]
    rw[eS]at hT1;have hB2:=hB0 h0
    (repeat(first|refine gk fun K hK=>?_|refine zs2 ?_));refine nq ?_;(repeat(first|refine gk fun K hK=>?_|refine zs2 ?_))
    refine aA ?_
    (repeat(first|refine gk fun K hK=>?_|refine zs2 ?_));refine ba ?_;(repeat(first|refine gk fun K hK=>?_|refine zs2 ?_))
    simp only[nx,inB];exact⟨cN-(c+1),_,by omega,(au (sl':=[(1,zI cN),(5, .own 19),(6,zI (r:Nat)),(7,zI ((c+1:Nat):Int))]) (ow':=[(19,⟨113,1,Mc.map dZ⟩)]) ay aD),r,c+1,Mc,rfl,by omega,hMcR,hMcL,⟨hr.1,by omega⟩,hT1,hB2,rfl⟩
   ·have eS : Mx.step r c M = (r + 1, Mx.fj r c (Mx.bB r c Mc)) := by
     unfold Mx.step;simp only[];rw[<-hMc,if_neg h0]
    rw[eS]at hT1;unfold Mx.fj at hT1;have hSB:=Mx.rj (c:=c) hMcB hrM;have hSre:=Mx.nB (c:=c) hrM;have hSR:=hSre.rc hMcR;have hSL:(Mx.bB r c Mc).length=L:=by rw[hSre.len];exact hMcL
    have hAB:∀k,k<=(Mx.bB r c Mc).length->Mx.Bd (2^E) (Mx.aw r c 0 (Mx.bB r c Mc) k):=fun k hk=>(Mx.vo hSR (by omega) hSB hk).mono hnb;have hpiv:Mx.at' (Mx.bB r c Mc) r c≠0:=by
     unfold Mx.bB;split
     ·rw[Mx.qu _ _ _ _ _ hrM,if_pos rfl,Mx.mN];show-(Mx.at' Mc r c)≠0;omega
     ·exact h0
    clear hSre hSB
    (repeat(first|refine gk fun K hK=>?_|refine zs2 ?_));refine nq ?_;(repeat(first|refine gk fun K hK=>?_|refine zs2 ?_))
    refine aB ?_
    (repeat refine zs2 ?_)
    refine gk fun K2 hK2=>?_;have TAIL2:∀s,Sh X0 Tryz.f78.ntmps s ⟨[(1,zI cN),(5, .own 19),(6,zI (r:Nat)),(7,zI (c:Nat))],[(19,⟨113,1,(Mx.bB r c Mc).map dZ⟩)]⟩->K2 s:=by
     intro s hs;apply hK2;refine az hs ?_;obtain⟨S,hS⟩:∃S,S=Mx.bB r c Mc:=⟨_,rfl⟩;rw[<-hS]at hT1 hSR hSL hAB hpiv;rw[<-hS];clear hS hK2 hgr hxr SX gx gn h0 eS
     (repeat(first|refine gk fun K hK=>?_|refine zs2 ?_));refine aX ?_;(repeat(first|refine gk fun K hK=>?_|refine zs2 ?_))
     (refine az (au (sl':=[(1,zI cN),(5, .own 19),(6,zI (r:Nat)),(7,zI (c:Nat)),(15,zI 0)]) (ow':=[(19,⟨113,1,S.map dZ⟩)]) ay aD) ?_)
     refine aV (fun k s=>∃j,j<=r/\k=r-j/\s=⟨[(1,zI cN),(5, .own 19),(6,zI (r:Nat)),(7,zI (c:Nat)),(15,zI (j:Nat))],[(19,⟨113,1,(Mx.aw r c 0 S j).map dZ⟩)]⟩) (m:=r) ⟨0,Nat.zero_le _,rfl,rfl⟩ fun k s hs=>?_;obtain⟨j,hjr,rfl,rfl⟩:=hs;have hLN:(Mx.aw r c 0 S j).length=L:=by rw[Mx.bW];exact hSL
     have hBN:=hAB j (by omega);have hRN:Mx.Rc n (Mx.aw r c 0 S j):=Mx.ic hSR (by omega) j (by omega);by_cases hj:j<r
     ·have HNX : Mx.aw r c 0 S (j + 1) = (Mx.aw r c 0 S j).set j (Mx.bN (Mx.rw (Mx.aw r c 0 S j) r) c (Mx.rw (Mx.aw r c 0 S j) j)) := by
       have:=Mx.gF (r:=r) (c:=c) (s:=0) (k:=j) (M:=S) (by omega) (by omega);rw[Nat.zero_add]at this;exact this
      have hpn:Mx.at' (Mx.aw r c 0 S j) r c≠0:=by
       unfold Mx.at';rw[Mx.cD r c 0 S j (by omega) r,if_neg (by omega)];exact hpiv
      obtain⟨A,hA⟩:∃A,A=Mx.aw r c 0 S j:=⟨_,rfl⟩;rw[<-hA]at HNX hpn hBN hRN hLN;rw[<-hA];clear hA hAB hT1;have hgj:=dE (M:=A) (i:=j) (by omega);have hgr:=dE (M:=A) (i:=r) (by omega);have hxj:=iI hRN (show j<A.length by omega) hcn;have hxr:=iI hRN (show r<A.length by omega) hcn;have DM:=vc (Mx.at' A j c) (Mx.at' A r c) (bC (hBN j c) (by omega)) (bC (hBN r c) (by omega)) hpn;have TK:=ua (c:=c) hRN (show j<A.length by omega) (show r<A.length by omega) hn hBN hEf;have hjj:(j:Int)=((j:Nat):Int):=rfl
      (repeat(first|refine gk fun K hK=>?_|refine zs2 ?_));refine td ?_;(repeat(first|refine gk fun K hK=>?_|refine zs2 ?_))
      refine aA ?_
      (repeat(first|refine gk fun K hK=>?_|refine zs2 ?_));((refine qx [16,17] ae zb20 ?_);refine cG ?_;refine cG ?_;refine iJ ?_;refine kd ?_;refine cG ?_;refine iJ ?_;refine kd ?_;refine cG ?_;refine cG ?_;refine iJ ?_;refine kd ?_;refine cG ?_;refine iJ ?_;refine kd ?_;refine zs89 ?_;refine cG ?_;refine qF ?_;refine qF ?_;refine qF ?_;(refine kT (k:=16) (z:=(.agg #[.bool false, .slice none 0 0])) (d:=(.nm 0)) rfl rfl rfl rfl rfl ae aa aa dK aa aa ?_);(refine kT (k:=17) (z:=(.agg #[.bool false, .slice none 0 0])) (d:=(.nm 0)) rfl rfl rfl rfl rfl ae aa aa dK aa aa ?_);refine tD ?_;refine tD ?_;refine zs92 ?_;(refine qA ae ?_));(repeat(first|refine gk fun K hK=>?_|refine zs2 ?_))
      (refine az (au (sl':=[(1,zI cN),(5, .own 19),(6,zI (r:Nat)),(7,zI (c:Nat)),(15,zI (j:Nat)),(16, .opt 16 0)]) (ow':=[(16,⟨62,2,[.nm (Mx.at' A j c/Mx.at' A r c)]⟩),(19,⟨113,1,A.map dZ⟩)]) ay aD) ?_)
      (repeat(first|refine gk fun K hK=>?_|refine zs2 ?_));refine Cz ?_;(repeat(first|refine gk fun K hK=>?_|refine zs2 ?_));refine ba ?_;(repeat(first|refine gk fun K hK=>?_|refine zs2 ?_))
      simp only[nx,inB];exact⟨r-(j+1),_,by omega,(au (sl':=[(1,zI cN),(5, .own 19),(6,zI (r:Nat)),(7,zI (c:Nat)),(15,zI ((j+1:Nat):Int))]) (ow':=[(19,⟨113,1,(A.map dZ).set j (dZ (Mx.bN (Mx.rw A r) c (Mx.rw A j)))⟩)]) ay aD),j+1,by omega,rfl,by rw[HNX,List.map_set]⟩
     ·obtain rfl:j=r:=by omega
      rw[hE]at hBN
      (repeat(first|refine gk fun K hK=>?_|refine zs2 ?_));refine td ?_;(repeat(first|refine gk fun K hK=>?_|refine zs2 ?_))
      refine aB ?_
      (repeat(first|refine gk fun K hK=>?_|refine zs2 ?_));refine ba ?_;(repeat(first|refine gk fun K hK=>?_|refine zs2 ?_));refine ba ?_;(repeat(first|refine gk fun K hK=>?_|refine zs2 ?_))
      simp only[nx,inB];exact⟨cN-(c+1),_,by omega,(au (sl':=[(1,zI cN),(5, .own 19),(6,zI ((j+1:Nat):Int)),(7,zI ((c+1:Nat):Int))]) (ow':=[(19,⟨113,1,(Mx.aw j c 0 S j).map dZ⟩)]) ay aD),j+1,c+1,_,rfl,by omega,hRN,hLN,⟨by omega,by omega⟩,hT1,hBN,rfl⟩
    clear hK2;by_cases hneg:Mx.at' Mc r c<0
    ·have hgs:=gn.2 hneg;have eG:Mx.bB r c Mc=Mc.set r (Mx.neg (Mx.rw Mc r)):=by unfold Mx.bB;rw[if_pos hneg]
     rw[eG,List.map_set]at TAIL2;have hrl:(Mx.rw Mc r).length=n:=hMcR.rw hrM;have hin:∀x∈Mx.rw Mc r,x.natAbs<=2^E:=fun x hx=>by
      obtain⟨j,hj,e⟩:=List.getElem_of_mem hx;have:=hMcB r j;unfold Mx.at' at this;rw[List.getD_eq_getElem?_getD,List.getElem?_eq_getElem hj,e]at this;exact Nat.le_trans this hKE
     have hf1:Hf 1:=by unfold Hf;rw[show(1:Int).natAbs=1 from rfl,pZ];decide
     have hf0:Hf 0:=by unfold Hf;rw[show(0:Int).natAbs=0 from rfl,(js 0).2 rfl];decide
     have TK:=zh (List.replicate (Mx.rw Mc r).length 0) (Mx.rw Mc r) 1 (by simp) (by rw[List.length_replicate];omega) (fun x hx=>by rw[List.eq_of_mem_replicate hx];exact hf0) (fun y hy=>⟨bC (hin y hy) (by omega),by rw[Int.one_mul];exact bC (hin y hy) (by omega)⟩) hf1;have eN:Mx.dw (-1) (List.replicate (Mx.rw Mc r).length 0) (Mx.rw Mc r)=Mx.neg (Mx.rw Mc r):=by
      refine Mx.ry (by rw[Mx.jD _ _ _ (by simp),List.length_replicate,Mx.hH]) fun j=>?_;rw[Mx.nQ _ _ _ _ (by simp),Mx.mN,List.getD_eq_getElem?_getD,List.getElem?_replicate];split<;>simp<;>omega
     rw[eN]at TK;unfold dZ at TK;rw[List.map_replicate]at TK;have OF:=of_d 1 (by omega);have hrr':(r:Int)=((r:Nat):Int):=rfl
     (repeat(first|refine gk fun K hK=>?_|refine zs2 ?_));refine Cy ?_;(repeat(first|refine gk fun K hK=>?_|refine zs2 ?_))
     refine aA ?_
     (repeat(first|refine gk fun K hK=>?_|refine zs2 ?_));(((first|(apply ah 15;(focus kernel_rfl);(decide+kernel))|(apply ah 14;(focus kernel_rfl);(decide+kernel))|(apply ah 13;(focus kernel_rfl);(decide+kernel))|(apply ah 12;(focus kernel_rfl);(decide+kernel))|(apply ah 11;(focus kernel_rfl);(decide+kernel))|(apply ah 10;(focus kernel_rfl);(decide+kernel))|(apply ah 9;(focus kernel_rfl);(decide+kernel))|(apply ah 8;(focus kernel_rfl);(decide+kernel)));simp only[List.take_succ_cons,List.take_zero,List.drop_succ_cons,List.drop_zero]);refine aZ ?_;refine aZ ?_;refine aZ ?_;refine aZ ?_;refine fY ?_;refine bR ?_;refine zs82 ?_;(first|refine cr rfl rfl rfl aa zb11 aa aa ?_|((try refine av ?_);refine aL1 rfl rfl rfl zb11 ?_));refine aZ ?_;refine aZ ?_;refine fY ?_;refine bR ?_;(first|refine cr rfl rfl rfl aa zb42 aa aa ?_|((try refine av ?_);refine aL1 rfl rfl rfl zb42 ?_));refine zs93 ?_;refine fY ?_;((try refine av ?_);(refine je (i:=r) rfl rfl rfl bu bu aR aa lk aa dK aa ae ll ?_));refine eA ?_);(repeat(first|refine gk fun K hK=>?_|refine zs2 ?_))
     exact(au (sl':=[(1,zI cN),(5, .own 19),(6,zI (r:Nat)),(7,zI (c:Nat))]) (ow':=[(19,⟨113,1,(Mc.map dZ).set r (dZ (Mx.neg (Mx.rw Mc r)))⟩)]) ay aD)
    ·have hgs:¬sgn (Mx.at' Mc r c)<0:=fun h=>hneg (gn.1 h);have eG:Mx.bB r c Mc=Mc:=by unfold Mx.bB;rw[if_neg hneg]
     rw[eG]at TAIL2
     (repeat(first|refine gk fun K hK=>?_|refine zs2 ?_));refine Cy ?_;(repeat(first|refine gk fun K hK=>?_|refine zs2 ?_))
     refine aB ?_
     (repeat(first|refine gk fun K hK=>?_|refine zs2 ?_))
     exact(au (sl':=[(1,zI cN),(5, .own 19),(6,zI (r:Nat)),(7,zI (c:Nat))]) (ow':=[(19,⟨113,1,Mc.map dZ⟩)]) ay aD)
  clear hK;have hred:0<cN-c:=by omega
  (refine az (au (sl':=[(1,zI cN),(5, .own 19),(6,zI (r:Nat)),(7,zI (c:Nat))]) (ow':=[(19,⟨113,1,M.map dZ⟩)]) ay aD) ?_)
  refine aV (fun k s=>∃N,k=Mx.eC r c N/\Mx.Rc n N/\N.length=L/\Mx.Jn K0 r c N/\Mx.bQ r c N=Mc/\s=⟨[(1,zI cN),(5, .own 19),(6,zI (r:Nat)),(7,zI (c:Nat))],[(19,⟨113,1,N.map dZ⟩)]⟩) (m:=Mx.eC r c M) ⟨M,rfl,hM,hML,hJ,hMc.symm,rfl⟩ fun k s hs=>?_;clear hJ hb hT hMc hML hM;obtain⟨N,rfl,hN,hNL,hJ,hNc,rfl⟩:=hs;have hNB:∀i,(Mx.at' N i c).natAbs<=2^E:=fun i=>Nat.le_trans (Mx.lP hJ i c) hKE
  (repeat(first|refine gk fun K hK=>?_|refine zs2 ?_));(refine gar ?_;refine gP ?_;refine zs52 ?_;refine af ?_);(repeat(first|refine gk fun K hK=>?_|refine zs2 ?_));refine ik ?_;(repeat(first|refine gk fun K hK=>?_|refine zs2 ?_))
  (refine az (au (sl':=[(1,zI cN),(5, .own 19),(6,zI (r:Nat)),(7,zI (c:Nat)),(8,zI (-1)),(9, .sc (.bool false)),(10,zI (r:Nat))]) (ow':=[(19,⟨113,1,N.map dZ⟩)]) ay aD) ?_)
  refine aV (fun k s=>∃i,r<=i/\i<=L/\k=L-i/\s=⟨[(1,zI cN),(5, .own 19),(6,zI (r:Nat)),(7,zI (c:Nat)),(8,atD (Mx.scan c r N (i-r)).1),(9, .sc (.bool (decide (2<=(Mx.scan c r N (i-r)).2)))),(10,zI (i:Nat))],[(19,⟨113,1,N.map dZ⟩)]⟩) (m:=L-r) ⟨r,Nat.le_refl _,by omega,rfl,by rw[Nat.sub_self];rfl⟩ fun k s hs=>?_;obtain⟨i,hri,hiL,rfl,rfl⟩:=hs;by_cases hi:i<L
  ·have hgi:=dE (M:=N) (i:=i) (by omega);have hxi:=iI hN (show i<N.length by omega) hcn;have SX:=kK (Mx.at' N i c) (bC (hNB i) (by omega));have gx:=oA (Mx.at' N i c);by_cases h0:Mx.at' N i c=0
   ·have HZ:=Mx.zB hri h0;rw[<-HZ];obtain⟨d8,h8⟩:∃d,d=atD (Mx.scan c r N (i+1-r)).1:=⟨_,rfl⟩;rw[<-h8]
    (repeat(first|refine gk fun K hK=>?_|refine zs2 ?_));refine aU ?_;(repeat(first|refine gk fun K hK=>?_|refine zs2 ?_))
    refine aA ?_
    (repeat(first|refine gk fun K hK=>?_|refine zs2 ?_));refine nq ?_;(repeat(first|refine gk fun K hK=>?_|refine zs2 ?_))
    refine aA ?_
    (repeat(first|refine gk fun K hK=>?_|refine zs2 ?_));refine ba ?_;(repeat(first|refine gk fun K hK=>?_|refine zs2 ?_))
    simp only[nx,inB];exact⟨L-(i+1),_,by omega,(au (sl':=[(1,zI cN),(5, .own 19),(6,zI (r:Nat)),(7,zI (c:Nat)),(8,d8),(9, .sc (.bool (decide (2<=(Mx.scan c r N (i+1-r)).2)))),(10,zI ((i+1:Nat):Int))]) (ow':=[(19,⟨113,1,N.map dZ⟩)]) ay aD),i+1,by omega,by omega,rfl,by rw[h8]⟩
   ·cases hp:(Mx.scan c r N (i-r)).1 with
    |none=>
     have h2:=((Mx.cS c r N (i-r)).no hp).1;have HS:=Mx.zC hri h0 hp;rw[h2]at HS;rw[show atD none=zI (-1)from rfl,h2,show decide (2<=0)=false from rfl]
     (repeat(first|refine gk fun K hK=>?_|refine zs2 ?_));refine aU ?_;(repeat(first|refine gk fun K hK=>?_|refine zs2 ?_))
     refine aA ?_
     (repeat(first|refine gk fun K hK=>?_|refine zs2 ?_));refine nq ?_;(repeat(first|refine gk fun K hK=>?_|refine zs2 ?_))
     refine aB ?_
     (repeat(first|refine gk fun K hK=>?_|refine zs2 ?_));refine xf ?_;(repeat(first|refine gk fun K hK=>?_|refine zs2 ?_));(refine zs95 ?_;refine aZ ?_;refine zs96 ?_;refine aZ ?_;refine gO ?_;refine gO ?_;refine mq ?_;refine kW ?_;refine gO ?_;refine mq ?_;refine kW ?_;refine Dd ?_;refine gO ?_;refine gO ?_;refine mq ?_;refine kW ?_;refine gO ?_;refine mq ?_;refine kW ?_;refine Dd ?_;(first|(first|(refine aHs rfl rfl rfl rfl rfl ?_ ?_;(focus(apply aQ;(conv=>lhs;whnf);(first|done|exact rfl|(apply aI;(first|(apply decide_eq_true;omega)|(apply decide_eq_false;omega)|assumption|(simp;done)))))))|refine mj rfl rfl rfl rfl rfl bI aa zb25 aa aa ?_)|((try refine av ?_);(first|(refine aLs rfl rfl rfl rfl ?_ ?_;(focus(apply aQ;(conv=>lhs;whnf);(first|done|exact rfl|(apply aI;(first|(apply decide_eq_true;omega)|(apply decide_eq_false;omega)|assumption|(simp;done)))))))|refine aLw rfl rfl rfl rfl bI zb25 ?_)));refine Dc ?_;refine Db ?_;refine eA ?_);(repeat(first|refine gk fun K hK=>?_|refine zs2 ?_))
     refine aA ?_
     (repeat(first|refine gk fun K hK=>?_|refine zs2 ?_));refine ik ?_;(repeat(first|refine gk fun K hK=>?_|refine zs2 ?_));refine ba ?_;(repeat(first|refine gk fun K hK=>?_|refine zs2 ?_))
     simp only[nx,inB];exact⟨L-(i+1),_,by omega,(au (sl':=[(1,zI cN),(5, .own 19),(6,zI (r:Nat)),(7,zI (c:Nat)),(8,zI (i:Nat)),(9, .sc (.bool false)),(10,zI ((i+1:Nat):Int))]) (ow':=[(19,⟨113,1,N.map dZ⟩)]) ay aD),i+1,by omega,by omega,rfl,by rw[HS];rfl⟩
    |some t=>
     have HT:=(Mx.cS c r N (i-r)).yes t hp;have htL:t<L:=by have:=HT.2.1;omega
     have hq1:1<=(Mx.scan c r N (i-r)).2:=HT.2.2.2.2.1;clear HT;have HLT:=Mx.vY hri h0 hp;have HGE:=Mx.vZ hri h0 hp;obtain⟨q,hq⟩:∃q,q=(Mx.scan c r N (i-r)).2:=⟨_,rfl⟩;rw[<-hq]at HLT HGE hq1;rw[<-hq,show atD (some t)=zI (t:Nat)from rfl];clear hq hp;have hgt:=dE (M:=N) (i:=t) (by omega);have hxt:=iI hN (show t<N.length by omega) hcn;have S1:=zu (Mx.at' N i c) (bC (hNB i) (by omega));have S2:=zu (Mx.at' N t c) (bC (hNB t) (by omega));have CM:=cmp_d ((Mx.at' N i c).natAbs:Int) ((Mx.at' N t c).natAbs:Int) (nL (by rw[Int.natAbs_natCast];exact hNB i) (by omega)) (nL (by rw[Int.natAbs_natCast];exact hNB t) (by omega));have gs:=rp (((Mx.at' N i c).natAbs:Int)-((Mx.at' N t c).natAbs:Int));have hii:(i:Int)=((i:Nat):Int):=rfl;by_cases hlt:(Mx.at' N i c).natAbs<(Mx.at' N t c).natAbs
     ·have HS:=HLT hlt;clear HLT HGE;have hg:=gs.2 (by omega);by_cases h2q:2<=q;all_goals
       first
       |rw[show decide (2<=q)=true from decide_eq_true h2q]
       |rw[show decide (2<=q)=false from decide_eq_false h2q]
       (repeat(first|refine gk fun K hK=>?_|refine zs2 ?_));refine aU ?_;(repeat(first|refine gk fun K hK=>?_|refine zs2 ?_))
       refine aA ?_
       (repeat(first|refine gk fun K hK=>?_|refine zs2 ?_));refine nq ?_;(repeat(first|refine gk fun K hK=>?_|refine zs2 ?_))
       refine aB ?_
       (repeat(first|refine gk fun K hK=>?_|refine zs2 ?_));refine xf ?_;(repeat(first|refine gk fun K hK=>?_|refine zs2 ?_));refine Cx ?_;(repeat(first|refine gk fun K hK=>?_|refine zs2 ?_))
       refine aA ?_
       (repeat(first|refine gk fun K hK=>?_|refine zs2 ?_));refine ik ?_;(repeat(first|refine gk fun K hK=>?_|refine zs2 ?_));refine ba ?_;(repeat(first|refine gk fun K hK=>?_|refine zs2 ?_))
       simp only[nx,inB];exact⟨L-(i+1),_,by omega,(au (sl':=[(1,zI cN),(5, .own 19),(6,zI (r:Nat)),(7,zI (c:Nat)),(8,zI (i:Nat)),(9, .sc (.bool true)),(10,zI ((i+1:Nat):Int))]) (ow':=[(19,⟨113,1,N.map dZ⟩)]) ay aD),i+1,by omega,by omega,rfl,by rw[HS,show decide (2<=q+1)=true from decide_eq_true (by omega)];rfl⟩
     ·have HS:=HGE hlt;clear HLT HGE;have hg:¬sgn (((Mx.at' N i c).natAbs:Int)-((Mx.at' N t c).natAbs:Int))<0:=fun h=>hlt (by have:=gs.1 h;omega);by_cases h2q:2<=q;all_goals
       first
       |rw[show decide (2<=q)=true from decide_eq_true h2q]
       |rw[show decide (2<=q)=false from decide_eq_false h2q]
       (repeat(first|refine gk fun K hK=>?_|refine zs2 ?_));refine aU ?_;(repeat(first|refine gk fun K hK=>?_|refine zs2 ?_))
       refine aA ?_
       (repeat(first|refine gk fun K hK=>?_|refine zs2 ?_));refine nq ?_;(repeat(first|refine gk fun K hK=>?_|refine zs2 ?_))
       refine aB ?_
       (repeat(first|refine gk fun K hK=>?_|refine zs2 ?_));refine xf ?_;(repeat(first|refine gk fun K hK=>?_|refine zs2 ?_));refine Cx ?_;(repeat(first|refine gk fun K hK=>?_|refine zs2 ?_))
       refine aB ?_
       (repeat(first|refine gk fun K hK=>?_|refine zs2 ?_));refine ba ?_;(repeat(first|refine gk fun K hK=>?_|refine zs2 ?_))
       simp only[nx,inB];exact⟨L-(i+1),_,by omega,(au (sl':=[(1,zI cN),(5, .own 19),(6,zI (r:Nat)),(7,zI (c:Nat)),(8,zI (t:Nat)),(9, .sc (.bool true)),(10,zI ((i+1:Nat):Int))]) (ow':=[(19,⟨113,1,N.map dZ⟩)]) ay aD),i+1,by omega,by omega,rfl,by rw[HS,show decide (2<=q+1)=true from decide_eq_true (by omega)];rfl⟩
  ·obtain rfl:i=L:=by omega
   have hpk:Mx.pick r c N=Mx.scan c r N (i-r):=by unfold Mx.pick;rw[hNL]
   cases hp:(Mx.scan c r N (i-r)).1 with
   |none=>
    have eN:N=Mc:=by rw[<-hNc,Mx.ni (by rw[hpk];exact hp)]
    rw[<-eN]at TAIL;rw[show atD none=zI (-1)from rfl]
    (repeat(first|refine gk fun K hK=>?_|refine zs2 ?_));refine aU ?_;(repeat(first|refine gk fun K hK=>?_|refine zs2 ?_))
    refine aB ?_
    (repeat(first|refine gk fun K hK=>?_|refine zs2 ?_));refine gf ?_;(repeat(first|refine gk fun K hK=>?_|refine zs2 ?_))
    refine aA ?_
    (refine az (au (sl':=[(1,zI cN),(5, .own 19),(6,zI (r:Nat)),(7,zI (c:Nat))]) (ow':=[(19,⟨113,1,N.map dZ⟩)]) ay aD) ?_)
    (repeat(first|refine gk fun K hK=>?_|refine zs2 ?_))
    all_goals((simp only[nx,inB,ite_true,ite_false,↓reduceIte,Nat.reduceEqDiff,reduceCtorEq]);apply_assumption-exfalso)
   |some t=>
    have HT:=(Mx.cS c r N (i-r)).yes t hp;have htL:t<i:=by have:=HT.2.1;omega
    have htz:=HT.2.2.1;have hq1:1<=(Mx.scan c r N (i-r)).2:=HT.2.2.2.2.1;clear HT;have hp':(Mx.pick r c N).1=some t:=by rw[hpk];exact hp
    have ONE:=Mx.oV (r:=r) (c:=c) (M:=N) hp';have STP:=Mx.nh hN hp';have MEA:=Mx.fb hN hp';have JST:=Mx.rK hN hJ hp';rw[hpk]at ONE STP MEA JST;obtain⟨q,hq⟩:∃q,q=(Mx.scan c r N (i-r)).2:=⟨_,rfl⟩;rw[<-hq]at hq1 ONE STP MEA JST;rw[<-hq,show atD (some t)=zI (t:Nat)from rfl];clear hq hp hp' hpk;have hgr:=dE (M:=N) (i:=r) (by omega);have hgt:=dE (M:=N) (i:=t) (by omega);have hsm:=Ee N r t;have hrr':(r:Int)=((r:Nat):Int):=rfl;have htt':(t:Int)=((t:Nat):Int):=rfl
    (repeat(first|refine gk fun K hK=>?_|refine zs2 ?_));refine aU ?_;(repeat(first|refine gk fun K hK=>?_|refine zs2 ?_))
    refine aB ?_
    (repeat(first|refine gk fun K hK=>?_|refine zs2 ?_));refine gf ?_;(repeat(first|refine gk fun K hK=>?_|refine zs2 ?_))
    refine aB ?_
    (repeat(first|refine gk fun K hK=>?_|refine zs2 ?_));((refine qx [] ae (by exact mU) ?_);refine cG ?_;refine cG ?_;refine cG ?_;refine cG ?_;refine cG ?_;refine cG ?_;refine iJ ?_;refine kd ?_;refine cG ?_;refine cG ?_;refine iJ ?_;refine kd ?_;refine iJ ?_;(refine rV (i:=r) rfl rfl rfl bu bu aR aa lk aa dK aa ae ll ?_);refine iJ ?_;(refine rV (i:=t) rfl rfl rfl bu bu aR aa lk aa dK aa ae ll ?_);(refine qA ae ?_));(repeat(first|refine gk fun K hK=>?_|refine zs2 ?_))
    (refine az (au (sl':=[(1,zI cN),(5, .own 19),(6,zI (r:Nat)),(7,zI (c:Nat)),(9, .sc (.bool (decide (2<=q))))]) (ow':=[(19,⟨113,1,((N.map dZ).set r (dZ (Mx.rw N t))).set t (dZ (Mx.rw N r))⟩)]) ay aD) ?_)
    rw[hsm];by_cases hq2:q=1
    ·have eN:Mx.swp N r t=Mc:=by rw[<-hNc,ONE hq2]
     rw[<-eN]at TAIL
     (repeat(first|refine gk fun K hK=>?_|refine zs2 ?_));refine sY ?_;(repeat(first|refine gk fun K hK=>?_|refine zs2 ?_))
     refine aA ?_
     (refine az (au (sl':=[(1,zI cN),(5, .own 19),(6,zI (r:Nat)),(7,zI (c:Nat))]) (ow':=[(19,⟨113,1,(Mx.swp N r t).map dZ⟩)]) ay aD) ?_)
     (repeat(first|refine gk fun K hK=>?_|refine zs2 ?_))
     all_goals((simp only[nx,inB,ite_true,ite_false,↓reduceIte,Nat.reduceEqDiff,reduceCtorEq]);apply_assumption-exfalso)
    ·have HE:=(STP hq2).symm.trans hNc;obtain⟨hrN,htN,hrt,hmeas⟩:=MEA hq2;obtain⟨hJB,hJ2⟩:=JST hq2;clear STP MEA JST ONE hsm hgr hgt;have hSR:=Mx.fw hN hrN htN;have hSL:(Mx.swp N r t).length=i:=by rw[Mx.bH];exact hNL
     have hpiv:Mx.at' (Mx.swp N r t) r c≠0:=by
      rw[Mx.cg hrN htN];split
      ·rename_i e;rw[e];exact htz
      ·rw[if_pos rfl];exact htz
     unfold Mx.elim at HE hmeas hJ2;rw[hNL]at hJB;rw[hSL]at HE hmeas hJ2;obtain⟨S,hS⟩:∃S,S=Mx.swp N r t:=⟨_,rfl⟩;rw[<-hS]at HE hmeas hJ2 hSR hSL hpiv hJB;rw[<-hS];clear hS TAIL
     (repeat(first|refine gk fun K hK=>?_|refine zs2 ?_));refine sY ?_;(repeat(first|refine gk fun K hK=>?_|refine zs2 ?_))
     refine aB ?_
     (repeat(first|refine gk fun K hK=>?_|refine zs2 ?_));refine ba ?_;(repeat(first|refine gk fun K hK=>?_|refine zs2 ?_))
     (refine az (au (sl':=[(1,zI cN),(5, .own 19),(6,zI (r:Nat)),(7,zI (c:Nat)),(11,zI ((r+1:Nat):Int))]) (ow':=[(19,⟨113,1,S.map dZ⟩)]) ay aD) ?_)
     refine aV (fun k s=>∃j,r+1<=j/\j<=i/\k=i-j/\s=⟨[(1,zI cN),(5, .own 19),(6,zI (r:Nat)),(7,zI (c:Nat)),(11,zI (j:Nat))],[(19,⟨113,1,(Mx.aw r c (r+1) S (j-(r+1))).map dZ⟩)]⟩) (m:=i-(r+1)) ⟨r+1,Nat.le_refl _,by omega,rfl,by rw[Nat.sub_self];rfl⟩ fun k s hs=>?_;obtain⟨j,hrj,hji,rfl,rfl⟩:=hs;by_cases hj:j<i
     ·have HNX : Mx.aw r c (r + 1) S (j + 1 - (r + 1)) = (Mx.aw r c (r + 1) S (j - (r + 1))).set j (Mx.bN (Mx.rw (Mx.aw r c (r + 1) S (j - (r + 1))) r) c (Mx.rw (Mx.aw r c (r + 1) S (j - (r + 1))) j)) := by
       rw[show j+1-(r+1)=(j-(r+1))+1 by omega,Mx.gF (by omega) (by rw[hSL];omega),show r+1+(j-(r+1))=j by omega]
      have hpn:Mx.at' (Mx.aw r c (r+1) S (j-(r+1))) r c≠0:=by
       unfold Mx.at';rw[Mx.cD r c (r+1) S (j-(r+1)) (by rw[hSL];omega) r,if_neg (by omega)];exact hpiv
      have hBN:=(hJB (j-(r+1)) (by omega)).mono hKE;have hRN:Mx.Rc n (Mx.aw r c (r+1) S (j-(r+1))):=Mx.ic hSR (by omega) _ (by omega);have hLN:(Mx.aw r c (r+1) S (j-(r+1))).length=i:=by rw[Mx.bW];exact hSL
      obtain⟨A,hA⟩:∃A,A=Mx.aw r c (r+1) S (j-(r+1)):=⟨_,rfl⟩;rw[<-hA]at HNX hpn hBN hRN hLN;rw[<-hA];clear hA hJB hJ2 hmeas HE;have hgj:=dE (M:=A) (i:=j) (by omega);have hgr:=dE (M:=A) (i:=r) (by omega);have hxj:=iI hRN (show j<A.length by omega) hcn;have hxr:=iI hRN (show r<A.length by omega) hcn;have DM:=vc (Mx.at' A j c) (Mx.at' A r c) (bC (hBN j c) (by omega)) (bC (hBN r c) (by omega)) hpn;have TK:=ua (c:=c) hRN (show j<A.length by omega) (show r<A.length by omega) hn hBN hEf;have hjj:(j:Int)=((j:Nat):Int):=rfl
      (repeat(first|refine gk fun K hK=>?_|refine zs2 ?_));refine aU ?_;(repeat(first|refine gk fun K hK=>?_|refine zs2 ?_))
      refine aA ?_
      (repeat(first|refine gk fun K hK=>?_|refine zs2 ?_));((refine qx [12,13] ae zb20 ?_);refine cG ?_;refine cG ?_;refine iJ ?_;refine kd ?_;refine cG ?_;refine iJ ?_;refine kd ?_;refine cG ?_;refine cG ?_;refine iJ ?_;refine kd ?_;refine cG ?_;refine iJ ?_;refine kd ?_;refine zs89 ?_;refine cG ?_;refine qF ?_;refine qF ?_;refine qF ?_;(refine kT (k:=12) (z:=(.agg #[.bool false, .slice none 0 0])) (d:=(.nm 0)) rfl rfl rfl rfl rfl ae aa aa dK aa aa ?_);(refine kT (k:=13) (z:=(.agg #[.bool false, .slice none 0 0])) (d:=(.nm 0)) rfl rfl rfl rfl rfl ae aa aa dK aa aa ?_);refine tD ?_;refine tD ?_;refine zs92 ?_;(refine qA ae ?_));(repeat(first|refine gk fun K hK=>?_|refine zs2 ?_))
      (refine az (au (sl':=[(1,zI cN),(5, .own 19),(6,zI (r:Nat)),(7,zI (c:Nat)),(11,zI (j:Nat)),(12, .opt 12 0)]) (ow':=[(12,⟨62,2,[.nm (Mx.at' A j c/Mx.at' A r c)]⟩),(19,⟨113,1,A.map dZ⟩)]) ay aD) ?_)
      (repeat(first|refine gk fun K hK=>?_|refine zs2 ?_));refine Cz ?_;(repeat(first|refine gk fun K hK=>?_|refine zs2 ?_));refine ba ?_;(repeat(first|refine gk fun K hK=>?_|refine zs2 ?_))
      simp only[nx,inB];exact⟨i-(j+1),_,by omega,(au (sl':=[(1,zI cN),(5, .own 19),(6,zI (r:Nat)),(7,zI (c:Nat)),(11,zI ((j+1:Nat):Int))]) (ow':=[(19,⟨113,1,(A.map dZ).set j (dZ (Mx.bN (Mx.rw A r) c (Mx.rw A j)))⟩)]) ay aD),j+1,by omega,by omega,rfl,by rw[HNX,List.map_set]⟩
     ·obtain rfl:j=i:=by omega
      have hLN:(Mx.aw r c (r+1) S (j-(r+1))).length=j:=by rw[Mx.bW];exact hSL
      (repeat(first|refine gk fun K hK=>?_|refine zs2 ?_));refine aU ?_;(repeat(first|refine gk fun K hK=>?_|refine zs2 ?_))
      refine aB ?_
      (repeat(first|refine gk fun K hK=>?_|refine zs2 ?_))
      simp only[nx,inB];exact⟨_,_,hmeas,(au (sl':=[(1,zI cN),(5, .own 19),(6,zI (r:Nat)),(7,zI (c:Nat))]) (ow':=[(19,⟨113,1,(Mx.aw r c (r+1) S (j-(r+1))).map dZ⟩)]) ay aD),_,rfl,Mx.ic hSR (by omega) (j-(r+1)) (by omega),by rw[Mx.bW];exact hSL,hJ2,HE,rfl⟩
 ·have eT : T.2 = M := by
   by_cases h1:c<cN
   ·rw[Mx.lC (by omega)]at hT;rw[<-hT]
   ·rw[show cN-c=0 by omega]at hT;rw[<-hT];rfl
  by_cases h1:c<cN
  ·have hd1:decide ((c:Int)<(cN:Int))=true:=decide_eq_true (by omega)
   (repeat(first|refine gk fun K hK=>?_|refine zs2 ?_));refine xg ?_;(repeat(first|refine gk fun K hK=>?_|refine zs2 ?_))
   refine aB ?_
   (repeat(first|refine gk fun K hK=>?_|refine zs2 ?_))
   refine az (aE (k:=19) aR bz bw) ?_;refine ik ?_
   (repeat(first|refine gk fun K hK=>?_|refine zs2 ?_))
   rw[eT];exact⟨_,Sh.refl, .one (.tmp 4) _ rfl (.tmp 4 rfl)⟩
  ·have hd1:decide ((c:Int)<(cN:Int))=false:=decide_eq_false (by omega)
   (repeat(first|refine gk fun K hK=>?_|refine zs2 ?_));refine xg ?_;(repeat(first|refine gk fun K hK=>?_|refine zs2 ?_))
   refine aB ?_
   (repeat(first|refine gk fun K hK=>?_|refine zs2 ?_))
   refine az (aE (k:=19) aR bz bw) ?_;refine ik ?_
   (repeat(first|refine gk fun K hK=>?_|refine zs2 ?_))
   rw[eT];exact⟨_,Sh.refl, .one (.tmp 4) _ rfl (.tmp 4 rfl)⟩
theorem Av(m:Mx.Mat)(n cN e:Nat)(hR:Mx.Rc n m)(hc:cN<=n)(hn:n<=1000)(hm:m.length<=1000)(he:6<=e)(hf:2*(e*11^m.length)<=3000000000)(hb:Mx.Bd (2^e) m):
 Fn Tryz.prog 78 [dW m,zI cN] (dW (Mx.red cN 0 (0,m)).2):=Au m n cN e m.length hR hc hn hm he (.inl (Nat.le_refl _)) hf hb
end DW
end
end Go.Proofs.YtcgjmdpcplhanaaGreat
