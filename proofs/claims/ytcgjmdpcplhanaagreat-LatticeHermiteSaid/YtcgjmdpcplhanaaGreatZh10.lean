/- Lemmas for the law: E14 -/
import Derived.Test.YtcgjmdpcplhanaaGreatZh9
namespace Go.Proofs.YtcgjmdpcplhanaaGreat
section
theorem zs99{p q:Prop}(h:q)(f:Wq q->p:=by(intro hW;((refine lk rfl rfl rfl rfl bq bq bc aa qu ae ae (by(simp only[List.length_map,List.length_nil];omega)) bZ qt ?_));exact hW.out)):p:=f ⟨h⟩
theorem eX{p q:Prop}(h:q)(f:Wq q->p:=by(intro hW;((first|refine aN1 rfl rfl rfl zb1 ?_|refine iZ rfl rfl rfl zb1 ?_));exact hW.out)):p:=f ⟨h⟩
theorem Ae{p q:Prop}(h:q)(f:Wq q->p:=by(intro hW;((first|refine aN1 rfl rfl rfl oh ?_|refine iZ rfl rfl rfl oh ?_));exact hW.out)):p:=f ⟨h⟩
theorem lv{p q:Prop}(h:q)(f:Wq q->p:=by(intro hW;((first|(first|(refine aHs rfl rfl rfl rfl rfl ?_ ?_;(focus(apply aY;(conv=>lhs;whnf);(first|done|exact rfl|(apply aK;(first|(apply decide_eq_true;omega)|(apply decide_eq_false;omega)|assumption|(simp;done)))))))|refine nX rfl rfl rfl rfl rfl bK aa zb4 aa aa ?_)|((try refine aB ?_);(first|(refine aLs rfl rfl rfl rfl ?_ ?_;(focus(apply aY;(conv=>lhs;whnf);(first|done|exact rfl|(apply aK;(first|(apply decide_eq_true;omega)|(apply decide_eq_false;omega)|assumption|(simp;done)))))))|refine aLw rfl rfl rfl rfl bK zb4 ?_))));exact hW.out)):p:=f ⟨h⟩
theorem GL{p q:Prop}(h:q)(f:Wq q->p:=by(intro hW;((first|refine cE rfl rfl rfl aa vM aa aa ?_|((try refine aB ?_);refine aL1 rfl rfl rfl vM ?_)));exact hW.out)):p:=f ⟨h⟩
theorem pw{p q:Prop}(h:q)(f:Wq q->p:=by(intro hW;((first|refine aN1 rfl rfl rfl zb40 ?_|refine iZ rfl rfl rfl zb40 ?_));exact hW.out)):p:=f ⟨h⟩
theorem zb70{p:Prop}(h:p:=by first|(apply ep;assumption)|exact rfl):p:=h
theorem dJ{p q:Prop}(h:q)(f:Wq q->p:=by(intro hW;((first|refine aN1 rfl rfl rfl zb4 ?_|refine uo rfl rfl rfl rfl bq bq bc ae ae (by first|omega|(simp;omega)) zb70 ?_|refine iZ rfl rfl rfl zb4 ?_));exact hW.out)):p:=f ⟨h⟩
theorem GN{p q:Prop}(h:q)(f:Wq q->p:=by(intro hW;((first|refine aN1 rfl rfl rfl tv ?_|refine iZ rfl rfl rfl tv ?_));exact hW.out)):p:=f ⟨h⟩
theorem zb19{p:Prop}(h:p:=by(apply nH;(focus((apply nH;(exact lE);(focus((repeat(first|exact nF|(apply lD;(exact rfl))|(apply nG;(exact rfl)))))))));(focus((repeat(first|exact nF|(apply lD;(exact rfl))|(apply nG;(exact rfl)))))))):p:=h
theorem zM{p q:Prop}(h:q)(f:Wq q->p:=by(intro hW;((refine gar ?_;refine zs4 ?_;refine zs4 ?_;refine lU ?_;refine zs4 ?_;refine zs8 ?_;refine zs8 ?_;refine iw ?_;refine zs62 ?_;refine iC ?_;refine af ?_));exact hW.out)):p:=f ⟨h⟩
theorem pn{p q:Prop}(h:q)(f:Wq q->p:=by(intro hW;((refine gar ?_;refine zs4 ?_;refine zs4 ?_;refine dh ?_;refine br ?_;refine zs4 ?_;refine dh ?_;refine br ?_;refine cZ ?_;refine mW ?_;refine af ?_));exact hW.out)):p:=f ⟨h⟩
theorem zL{p q:Prop}(h:q)(f:Wq q->p:=by(intro hW;((refine gar ?_;refine zs4 ?_;refine zs4 ?_;refine zs8 ?_;refine mU ?_;refine iu ?_;refine zs6 ?_;refine af ?_));exact hW.out)):p:=f ⟨h⟩
theorem zb11{p:Prop}(h:p:=by(apply(Kl (zv:=(.agg #[.bool false,.slice none 0 0])) (d0:=(.nm 0)) (wd:=2));(exact rfl);(focus((apply an;(conv=>lhs;whnf);(first|done|exact rfl))));(focus((apply an;(conv=>lhs;whnf);(first|done|exact rfl))));(kernel_rfl);(kernel_rfl);(exact rfl);(exact rfl);(exact rfl);(exact rfl);(exact rfl);(omega);(focus(first|exact Int.toNat_natCast _|exact rfl)))):p:=h
theorem GJ{p q:Prop}(h:q)(f:Wq q->p:=by(intro hW;((first|(first|(refine aHs rfl rfl rfl rfl rfl ?_ ?_;(focus(apply aY;(conv=>lhs;whnf);(first|done|exact rfl|(apply aK;(first|(apply decide_eq_true;omega)|(apply decide_eq_false;omega)|assumption|(simp;done)))))))|refine nX rfl rfl rfl rfl rfl bK aa zb34 aa aa ?_)|((try refine aB ?_);(first|(refine aLs rfl rfl rfl rfl ?_ ?_;(focus(apply aY;(conv=>lhs;whnf);(first|done|exact rfl|(apply aK;(first|(apply decide_eq_true;omega)|(apply decide_eq_false;omega)|assumption|(simp;done)))))))|refine aLw rfl rfl rfl rfl bK zb34 ?_))));exact hW.out)):p:=f ⟨h⟩
theorem zb26{p:Prop}(h:p:=by(apply kC;(exact rfl);(focus((apply an;(conv=>lhs;whnf);(first|done|exact rfl))));(focus((apply an;(conv=>lhs;whnf);(first|done|exact rfl))));(exact rfl);(exact rfl);(focus((first|exact fail)));(exact rfl))):p:=h
theorem GK{p q:Prop}(h:q)(f:Wq q->p:=by(intro hW;((first|(apply ai 21;(focus kernel_rfl);(decide+kernel))|(apply ai 20;(focus kernel_rfl);(decide+kernel))|(apply ai 19;(focus kernel_rfl);(decide+kernel))|(apply ai 18;(focus kernel_rfl);(decide+kernel))|(apply ai 17;(focus kernel_rfl);(decide+kernel))|(apply ai 16;(focus kernel_rfl);(decide+kernel))|(apply ai 15;(focus kernel_rfl);(decide+kernel))|(apply ai 14;(focus kernel_rfl);(decide+kernel)));simp only[List.take_succ_cons,List.take_zero,List.drop_succ_cons,List.drop_zero]);exact hW.out)):p:=f ⟨h⟩
theorem GI{p q:Prop}(h:q)(f:Wq q->p:=by(intro hW;((first|(first|(refine aHs rfl rfl rfl rfl rfl ?_ ?_;(focus(apply aY;(conv=>lhs;whnf);(first|done|exact rfl|(apply aK;(first|(apply decide_eq_true;omega)|(apply decide_eq_false;omega)|assumption|(simp;done)))))))|refine nX rfl rfl rfl rfl rfl bK aa og aa aa ?_)|((try refine aB ?_);(first|(refine aLs rfl rfl rfl rfl ?_ ?_;(focus(apply aY;(conv=>lhs;whnf);(first|done|exact rfl|(apply aK;(first|(apply decide_eq_true;omega)|(apply decide_eq_false;omega)|assumption|(simp;done)))))))|refine aLw rfl rfl rfl rfl bK og ?_))));exact hW.out)):p:=f ⟨h⟩
theorem gM{p q:Prop}(h:q)(f:Wq q->p:=by(intro hW;((first|(first|(refine aHs rfl rfl rfl rfl rfl ?_ ?_;(focus(apply aY;(conv=>lhs;whnf);(first|done|exact rfl|(apply aK;(first|(apply decide_eq_true;omega)|(apply decide_eq_false;omega)|assumption|(simp;done)))))))|refine nX rfl rfl rfl rfl rfl bK aa kG aa aa ?_)|((try refine aB ?_);(first|(refine aLs rfl rfl rfl rfl ?_ ?_;(focus(apply aY;(conv=>lhs;whnf);(first|done|exact rfl|(apply aK;(first|(apply decide_eq_true;omega)|(apply decide_eq_false;omega)|assumption|(simp;done)))))))|refine aLw rfl rfl rfl rfl bK kG ?_))));exact hW.out)):p:=f ⟨h⟩
theorem Ge{p q:Prop}(h:q)(f:Wq q->p:=by(intro hW;((refine GK ?_;refine aQ ?_;refine zs81 ?_;refine aQ ?_;refine gM ?_;refine gM ?_;refine lv ?_;refine lT ?_;refine gM ?_;refine lv ?_;refine lT ?_;refine GI ?_;refine gM ?_;refine gM ?_;refine lv ?_;refine lT ?_;refine gM ?_;refine lv ?_;refine lT ?_;refine GI ?_;refine zs84 ?_;refine zs85 ?_;refine zu ?_;refine di ?_));exact hW.out)):p:=f ⟨h⟩
theorem bA{p q:Prop}(h:q)(f:Wq q->p:=by(intro hW;((first|refine aN1 rfl rfl rfl kG ?_|refine iZ rfl rfl rfl kG ?_));exact hW.out)):p:=f ⟨h⟩
theorem zb15{p:Prop}(h:p:=by(apply uc;(exact rfl);(focus((apply an;(conv=>lhs;whnf);(first|done|exact rfl))));(focus((apply an;(conv=>lhs;whnf);(first|done|exact rfl))));(focus((apply an;(conv=>lhs;whnf);(first|done|exact rfl))));(exact rfl);(exact rfl);(exact rfl);(assumption);(exact rfl))):p:=h
theorem GM{p q:Prop}(h:q)(f:Wq q->p:=by(intro hW;((first|refine cE rfl rfl rfl aa zb15 aa aa ?_|((try refine aB ?_);refine aL1 rfl rfl rfl zb15 ?_)));exact hW.out)):p:=f ⟨h⟩
theorem zs108{p q:Prop}(h:q)(f:Wq q->p:=by(intro hW;(((try refine aB ?_);(refine kD (i:=j) rfl rfl rfl bq bq bc aa lW aa dL aa ae lX ?_)));exact hW.out)):p:=f ⟨h⟩
theorem Gg{p q:Prop}(h:q)(f:Wq q->p:=by(intro hW;((refine zs92 ?_;refine aQ ?_;refine aQ ?_;refine aQ ?_;refine aQ ?_;refine cR ?_;refine bp ?_;refine aQ ?_;refine aQ ?_;refine cR ?_;refine bp ?_;refine bp ?_;refine GM ?_;refine cR ?_;refine zs108 ?_;refine di ?_));exact hW.out)):p:=f ⟨h⟩
theorem ri{p q:Prop}(h:q)(f:Wq q->p:=by(intro hW;((refine gar ?_;refine zs4 ?_;refine qm ?_;refine af ?_));exact hW.out)):p:=f ⟨h⟩
theorem Gf{p q:Prop}(h:q)(f:Wq q->p:=by(intro hW;((refine gar ?_;refine zs4 ?_;refine zs4 ?_;refine dh ?_;refine br ?_;refine zs4 ?_;refine dh ?_;refine br ?_;refine cZ ?_;refine zs7 ?_;refine af ?_));exact hW.out)):p:=f ⟨h⟩
theorem rq{p q:Prop}(h:q)(f:Wq q->p:=by(intro hW;((refine qc (i:=0) rfl rfl rfl bq bq bc aa lW aa dL aa ae lX ?_));exact hW.out)):p:=f ⟨h⟩
end
section
open Go.RowKit
namespace DW
def atD:Option Nat->D
 |none=>zI (-1)
 |some t=>zI (t:Nat)
theorem eI{M:Mx.Mat}{i:Nat}(h:i<M.length):M[i]?=some (Mx.rw M i):=by
 unfold Mx.rw;rw[List.getD_eq_getElem?_getD,List.getElem?_eq_getElem h];rfl
theorem iW{M:Mx.Mat}{n i c:Nat}(hM:Mx.Rc n M)(h:i<M.length)(hc:c<n):(Mx.rw M i)[c]?=some (Mx.at' M i c):=by
 unfold Mx.at';rw[List.getD_eq_getElem?_getD,List.getElem?_eq_getElem (by rw[hM.rw h];exact hc)];rfl
theorem Kd{z:Int}{e k:Nat}(h:z.natAbs<=2^e)(he:e<16*k):(hd z.natAbs).length<=k:=eR (by
 have h1:(65536:Nat)^k=2^(16*k):=by rw[show(65536:Nat)=2^16 by rfl,<-Nat.pow_mul]
 rw[h1];exact Nat.lt_of_le_of_lt h (Nat.pow_lt_pow_right (by omega) he))
theorem qz(z:Int):sgn z=0↔z=0:=by unfold sgn;split<;>(try split)<;>omega
theorem jo{z:Int}{e:Nat}(h:z.natAbs<=2^e)(he:e<=3000000000):(hd z.natAbs).length<=199999999:=Kd h (by omega)
theorem bC{z:Int}{e:Nat}(h:z.natAbs<=2^e)(he:e<=3000000000):Hf z:=Nat.le_trans (jo h he) (by decide)
theorem vT{N:Mx.Mat}{n i r c E:Nat}(hN:Mx.Rc n N)(hi:i<N.length)(hr:r<N.length)(hn:n<=1000)(hb:Mx.Bd (2^E) N)(hE:2*E<=3000000000):Fn Tryz.prog 149 [dZ (Mx.rw N i),dZ (Mx.rw N r),.nm (Mx.at' N i c/Mx.at' N r c)] (dZ (Mx.cq (Mx.rw N r) c (Mx.rw N i))):=by
 have hm:∀{i:Nat} {x:Int},x∈Mx.rw N i->x.natAbs<=2^E:=fun {i x} hx=>by
  obtain⟨j,hj,e⟩:=List.getElem_of_mem hx;have:=hb i j;unfold Mx.at' at this;rw[List.getD_eq_getElem?_getD,List.getElem?_eq_getElem hj,e]at this;exact this
 have hq:(Mx.at' N i c/Mx.at' N r c).natAbs<=2^E:=Nat.le_trans (Mx.jK _ _) (hb i c);refine B5 (Mx.rw N i) (Mx.rw N r) _ (by rw[hN.rw hi,hN.rw hr]) (by rw[hN.rw hi];omega) (fun x hx=>bC (hm hx) (by omega)) (fun y hy=>⟨bC (hm hy) (by omega),bC (e:=E+E) ?_ (by omega)⟩) (bC hq (by omega));rw[Int.natAbs_mul,Nat.pow_add];exact Nat.mul_le_mul hq (hm hy)
theorem Ia(N:Mx.Mat)(r t:Nat):((N.map dZ).set r (dZ (Mx.rw N t))).set t (dZ (Mx.rw N r))=(Mx.swp N r t).map dZ:=by
 unfold Mx.swp;rw[List.map_set,List.map_set]
set_option maxRecDepth 20000
set_option maxHeartbeats 2000000
theorem Dp(m:Mx.Mat)(n cN e p:Nat)(hR:Mx.Rc n m)(hc:cN<=n)(hn:n<=1000)(hm:m.length<=1000)(he:6<=e)(hp:m.length<=p\/cN<=p)(hf:2*(e*11^p)<=3000000000)(hb:Mx.Bd (2^e) m):
  Fn Tryz.prog 78 [dW m,zI cN] (dW (Mx.red cN 0 (0,m)).2):=by
 obtain⟨T,hT⟩:∃T,T=Mx.red cN 0 (0,m):=⟨_,rfl⟩;rw[<-hT];obtain⟨L,hL⟩:∃L,L=m.length:=⟨_,rfl⟩;rw[<-hL]at hp;refine bn Tryz.func78 ae rfl rfl rfl fun X0=>?_;simp only[aE]
 (repeat(first|refine gk fun K hK=>?_|refine zs2 ?_));refine cw ?_;(repeat(first|refine gk fun K hK=>?_|refine zs2 ?_));(refine gar ?_;(refine ur (k:=19) (wd:=1) (T:=Tryz.prog.elem 27) rfl rfl rfl rfl ae ae aa aa bZ ?_);refine zs4 ?_;refine zs99 ?_;refine zs6 ?_;refine af ?_);(repeat(first|refine gk fun K hK=>?_|refine zs2 ?_));refine aS ?_;(repeat(first|refine gk fun K hK=>?_|refine zs2 ?_));refine aS ?_;(repeat(first|refine gk fun K hK=>?_|refine zs2 ?_))
 (refine aq (aj (sl':=[(1,zI cN),(5, .own 19),(6,zI 0),(7,zI 0)]) (ow':=[(19,⟨113,1,m.map dZ⟩)]) au ay) ?_)
 refine aF (fun k s=>∃r c M,k=cN-c/\c<=cN/\Mx.Rc n M/\M.length=L/\(r<=L/\r<=c)/\Mx.red (cN-c) c (r,M)=T/\Mx.Bd (2^(e*11^r)) M/\s=⟨[(1,zI cN),(5, .own 19),(6,zI (r:Nat)),(7,zI (c:Nat))],[(19,⟨113,1,M.map dZ⟩)]⟩) (m:=cN) ⟨0,0,m,rfl,Nat.zero_le _,hR,hL.symm,⟨Nat.zero_le _,Nat.zero_le _⟩,hT.symm,by rw[Nat.pow_zero,Nat.mul_one];exact hb,rfl⟩ fun k s hs=>?_;clear hT hb;obtain⟨r,c,M,rfl,hcN,hM,hML,hr,hT,hb,rfl⟩:=hs;by_cases hgo:c<cN/\r<L
 ·obtain⟨hcc,hrr⟩:=hgo;have hd1:decide ((c:Int)<(cN:Int))=true:=decide_eq_true (by omega);have hcn:c<n:=by omega
  (repeat(first|refine gk fun K hK=>?_|refine zs2 ?_));refine zM ?_;(repeat(first|refine gk fun K hK=>?_|refine zs2 ?_))
  refine av ?_
  (repeat(first|refine gk fun K hK=>?_|refine zs2 ?_))
  obtain⟨X,hX⟩:∃X,X=2^(e*11^r):=⟨_,rfl⟩;obtain⟨K0,hK0⟩:∃K0,K0=6*X^5:=⟨_,rfl⟩;obtain⟨E,hE⟩:∃E,E=e*11^(r+1):=⟨_,rfl⟩;obtain⟨Mc,hMc⟩:∃Mc,Mc=Mx.cv r c M:=⟨_,rfl⟩;have hEf:2*E<=3000000000:=Nat.le_trans (Nat.mul_le_mul_left 2 (by rw[hE];exact Nat.mul_le_mul_left e (Nat.pow_le_pow_right (by omega) (by omega)))) hf;have hX1:1<=X:=by rw[hX];exact Nat.pow_pos (by omega)
  have hnb:K0*(K0+1)<=2^E:=by
   have h1:6<=e*11^r:=Nat.le_trans he (Nat.le_mul_of_pos_right _ (Nat.pow_pos (by omega)));have h2:=Mx.sb h1;rw[Mx.e11,<-hX,<-hE]at h2;rw[hK0];exact h2
  have hKE:K0<=2^E:=Nat.le_trans (Nat.le_mul_of_pos_right _ (by omega)) hnb;rw[<-hX]at hb;have hJ:Mx.Jn K0 r c M:= .inl ⟨X,hX1,hb,by rw[hK0];exact Nat.le_refl _⟩;have hcl:=(Mx.nR (r:=r) (c:=c) hM).1.re;have hMcR:Mx.Rc n Mc:=by rw[hMc];exact hcl.rc hM
  have hMcL:Mc.length=L:=by rw[hMc,hcl.len];exact hML
  have hMcB:Mx.Bd K0 Mc:=by rw[hMc];exact Mx.ue hM hJ
  have hB0:Mx.at' Mc r c=0->Mx.Bd (2^(e*11^r)) Mc:=fun h0=>by
   rw[hMc]at h0⊢;rw[(Mx.Dx (r:=r) (c:=c) hM).resolve_right (fun hh=>hh h0),<-hX];exact hb
  clear hcl hX hK0 hX1;have TAIL:K ⟨[(1,zI cN),(5, .own 19),(6,zI (r:Nat)),(7,zI (c:Nat))],[(19,⟨113,1,Mc.map dZ⟩)]⟩:=by
   apply hK;have hrM:r<Mc.length:=by omega
   have hgr:=eI hrM;have hxr:=iW hMcR hrM hcn;have SX:=oB (Mx.at' Mc r c) (bC (Nat.le_trans (hMcB r c) hKE) (by omega));have gx:=qz (Mx.at' Mc r c);have gn:=pG (Mx.at' Mc r c);have hT1:Mx.red (cN-(c+1)) (c+1) (Mx.step r c M)=T:=by
    rw[<-hT,show cN-c=cN-(c+1)+1 by omega,Mx.wm (by omega)]
   by_cases h0:Mx.at' Mc r c=0
   ·have eS : Mx.step r c M = (r, Mc) := by
     unfold Mx.step;simp only[];rw[<-hMc,if_pos h0]
    rw[eS]at hT1;have hB2:=hB0 h0
    (repeat(first|refine gk fun K hK=>?_|refine zs2 ?_));refine pn ?_;(repeat(first|refine gk fun K hK=>?_|refine zs2 ?_))
    refine av ?_
    (repeat(first|refine gk fun K hK=>?_|refine zs2 ?_));refine aZ ?_;(repeat(first|refine gk fun K hK=>?_|refine zs2 ?_))
    simp only[nx,inB];exact⟨cN-(c+1),_,by omega,(aj (sl':=[(1,zI cN),(5, .own 19),(6,zI (r:Nat)),(7,zI ((c+1:Nat):Int))]) (ow':=[(19,⟨113,1,Mc.map dZ⟩)]) au ay),r,c+1,Mc,rfl,by omega,hMcR,hMcL,⟨hr.1,by omega⟩,hT1,hB2,rfl⟩
   ·have eS : Mx.step r c M = (r + 1, Mx.gC r c (Mx.bN r c Mc)) := by
     unfold Mx.step;simp only[];rw[<-hMc,if_neg h0]
    rw[eS]at hT1;unfold Mx.gC at hT1;have hSB:=Mx.tJ (c:=c) hMcB hrM;have hSre:=Mx.pF (c:=c) hrM;have hSR:=hSre.rc hMcR;have hSL:(Mx.bN r c Mc).length=L:=by rw[hSre.len];exact hMcL
    have hAB:∀k,k<=(Mx.bN r c Mc).length->Mx.Bd (2^E) (Mx.aD r c 0 (Mx.bN r c Mc) k):=fun k hk=>(Mx.xI hSR (by omega) hSB hk).mono hnb;have hpiv:Mx.at' (Mx.bN r c Mc) r c≠0:=by
     unfold Mx.bN;split
     ·rw[Mx.jM _ _ _ _ _ hrM,if_pos rfl,Mx.fq];show-(Mx.at' Mc r c)≠0;omega
     ·exact h0
    clear hSre hSB
    (repeat(first|refine gk fun K hK=>?_|refine zs2 ?_));refine pn ?_;(repeat(first|refine gk fun K hK=>?_|refine zs2 ?_))
    refine az ?_
    (repeat refine zs2 ?_)
    refine gk fun K2 hK2=>?_;have TAIL2:∀s,Sh X0 Tryz.f78.ntmps s ⟨[(1,zI cN),(5, .own 19),(6,zI (r:Nat)),(7,zI (c:Nat))],[(19,⟨113,1,(Mx.bN r c Mc).map dZ⟩)]⟩->K2 s:=by
     intro s hs;apply hK2;refine aq hs ?_;obtain⟨S,hS⟩:∃S,S=Mx.bN r c Mc:=⟨_,rfl⟩;rw[<-hS]at hT1 hSR hSL hAB hpiv;rw[<-hS];clear hS hK2 hgr hxr SX gx gn h0 eS
     (repeat(first|refine gk fun K hK=>?_|refine zs2 ?_));refine aS ?_;(repeat(first|refine gk fun K hK=>?_|refine zs2 ?_))
     (refine aq (aj (sl':=[(1,zI cN),(5, .own 19),(6,zI (r:Nat)),(7,zI (c:Nat)),(15,zI 0)]) (ow':=[(19,⟨113,1,S.map dZ⟩)]) au ay) ?_)
     refine aF (fun k s=>∃j,j<=r/\k=r-j/\s=⟨[(1,zI cN),(5, .own 19),(6,zI (r:Nat)),(7,zI (c:Nat)),(15,zI (j:Nat))],[(19,⟨113,1,(Mx.aD r c 0 S j).map dZ⟩)]⟩) (m:=r) ⟨0,Nat.zero_le _,rfl,rfl⟩ fun k s hs=>?_;obtain⟨j,hjr,rfl,rfl⟩:=hs;have hLN:(Mx.aD r c 0 S j).length=L:=by rw[Mx.cC];exact hSL
     have hBN:=hAB j (by omega);have hRN:Mx.Rc n (Mx.aD r c 0 S j):=Mx.js hSR (by omega) j (by omega);by_cases hj:j<r
     ·have HNX : Mx.aD r c 0 S (j + 1) = (Mx.aD r c 0 S j).set j (Mx.cq (Mx.rw (Mx.aD r c 0 S j) r) c (Mx.rw (Mx.aD r c 0 S j) j)) := by
       have:=Mx.iR (r:=r) (c:=c) (s:=0) (k:=j) (M:=S) (by omega) (by omega);rw[Nat.zero_add]at this;exact this
      have hpn:Mx.at' (Mx.aD r c 0 S j) r c≠0:=by
       unfold Mx.at';rw[Mx.cM r c 0 S j (by omega) r,if_neg (by omega)];exact hpiv
      obtain⟨A,hA⟩:∃A,A=Mx.aD r c 0 S j:=⟨_,rfl⟩;rw[<-hA]at HNX hpn hBN hRN hLN;rw[<-hA];clear hA hAB hT1;have hgj:=eI (M:=A) (i:=j) (by omega);have hgr:=eI (M:=A) (i:=r) (by omega);have hxj:=iW hRN (show j<A.length by omega) hcn;have hxr:=iW hRN (show r<A.length by omega) hcn;have DM:=xu (Mx.at' A j c) (Mx.at' A r c) (bC (hBN j c) (by omega)) (bC (hBN r c) (by omega)) hpn;have TK:=vT (c:=c) hRN (show j<A.length by omega) (show r<A.length by omega) hn hBN hEf;have hjj:(j:Int)=((j:Nat):Int):=rfl
      (repeat(first|refine gk fun K hK=>?_|refine zs2 ?_));refine eV ?_;(repeat(first|refine gk fun K hK=>?_|refine zs2 ?_))
      refine av ?_
      (repeat(first|refine gk fun K hK=>?_|refine zs2 ?_));((refine oZ [16,17] ae zb19 ?_);refine bA ?_;refine bA ?_;refine dJ ?_;refine eX ?_;refine bA ?_;refine dJ ?_;refine eX ?_;refine bA ?_;refine bA ?_;refine dJ ?_;refine eX ?_;refine bA ?_;refine dJ ?_;refine eX ?_;refine Ae ?_;refine bA ?_;refine pw ?_;refine pw ?_;refine pw ?_;(refine mR (k:=16) (z:=(.agg #[.bool false, .slice none 0 0])) (d:=(.nm 0)) rfl rfl rfl rfl rfl ae aa aa dL aa aa ?_);(refine mR (k:=17) (z:=(.agg #[.bool false, .slice none 0 0])) (d:=(.nm 0)) rfl rfl rfl rfl rfl ae aa aa dL aa aa ?_);refine rq ?_;refine rq ?_;refine GN ?_;(refine pa ae ?_));(repeat(first|refine gk fun K hK=>?_|refine zs2 ?_))
      (refine aq (aj (sl':=[(1,zI cN),(5, .own 19),(6,zI (r:Nat)),(7,zI (c:Nat)),(15,zI (j:Nat)),(16, .opt 16 0)]) (ow':=[(16,⟨62,2,[.nm (Mx.at' A j c/Mx.at' A r c)]⟩),(19,⟨113,1,A.map dZ⟩)]) au ay) ?_)
      (repeat(first|refine gk fun K hK=>?_|refine zs2 ?_));refine Gg ?_;(repeat(first|refine gk fun K hK=>?_|refine zs2 ?_));refine aZ ?_;(repeat(first|refine gk fun K hK=>?_|refine zs2 ?_))
      simp only[nx,inB];exact⟨r-(j+1),_,by omega,(aj (sl':=[(1,zI cN),(5, .own 19),(6,zI (r:Nat)),(7,zI (c:Nat)),(15,zI ((j+1:Nat):Int))]) (ow':=[(19,⟨113,1,(A.map dZ).set j (dZ (Mx.cq (Mx.rw A r) c (Mx.rw A j)))⟩)]) au ay),j+1,by omega,rfl,by rw[HNX,List.map_set]⟩
     ·obtain rfl:j=r:=by omega
      rw[hE]at hBN
      (repeat(first|refine gk fun K hK=>?_|refine zs2 ?_));refine eV ?_;(repeat(first|refine gk fun K hK=>?_|refine zs2 ?_))
      refine az ?_
      (repeat(first|refine gk fun K hK=>?_|refine zs2 ?_));refine aZ ?_;(repeat(first|refine gk fun K hK=>?_|refine zs2 ?_));refine aZ ?_;(repeat(first|refine gk fun K hK=>?_|refine zs2 ?_))
      simp only[nx,inB];exact⟨cN-(c+1),_,by omega,(aj (sl':=[(1,zI cN),(5, .own 19),(6,zI ((j+1:Nat):Int)),(7,zI ((c+1:Nat):Int))]) (ow':=[(19,⟨113,1,(Mx.aD j c 0 S j).map dZ⟩)]) au ay),j+1,c+1,_,rfl,by omega,hRN,hLN,⟨by omega,by omega⟩,hT1,hBN,rfl⟩
    clear hK2;by_cases hneg:Mx.at' Mc r c<0
    ·have hgs:=gn.2 hneg;have eG:Mx.bN r c Mc=Mc.set r (Mx.neg (Mx.rw Mc r)):=by unfold Mx.bN;rw[if_pos hneg]
     rw[eG,List.map_set]at TAIL2;have hrl:(Mx.rw Mc r).length=n:=hMcR.rw hrM;have hin:∀x∈Mx.rw Mc r,x.natAbs<=2^E:=fun x hx=>by
      obtain⟨j,hj,e⟩:=List.getElem_of_mem hx;have:=hMcB r j;unfold Mx.at' at this;rw[List.getD_eq_getElem?_getD,List.getElem?_eq_getElem hj,e]at this;exact Nat.le_trans this hKE
     have hf1:Hf 1:=by unfold Hf;rw[show(1:Int).natAbs=1 from rfl,sw];decide
     have hf0:Hf 0:=by unfold Hf;rw[show(0:Int).natAbs=0 from rfl,(kR 0).2 rfl];decide
     have TK:=B5 (List.replicate (Mx.rw Mc r).length 0) (Mx.rw Mc r) 1 (by simp) (by rw[List.length_replicate];omega) (fun x hx=>by rw[List.eq_of_mem_replicate hx];exact hf0) (fun y hy=>⟨bC (hin y hy) (by omega),by rw[Int.one_mul];exact bC (hin y hy) (by omega)⟩) hf1;have eN:Mx.bP (-1) (List.replicate (Mx.rw Mc r).length 0) (Mx.rw Mc r)=Mx.neg (Mx.rw Mc r):=by
      refine Mx.mG (by rw[Mx.jv _ _ _ (by simp),List.length_replicate,Mx.jj]) fun j=>?_;rw[Mx.fG _ _ _ _ (by simp),Mx.fq,List.getD_eq_getElem?_getD,List.getElem?_replicate];split<;>simp<;>omega
     rw[eN]at TK;unfold dZ at TK;rw[List.map_replicate]at TK;have OF:=qH 1 (by omega);have hrr':(r:Int)=((r:Nat):Int):=rfl
     (repeat(first|refine gk fun K hK=>?_|refine zs2 ?_));refine Gf ?_;(repeat(first|refine gk fun K hK=>?_|refine zs2 ?_))
     refine av ?_
     (repeat(first|refine gk fun K hK=>?_|refine zs2 ?_));(((first|(apply ai 15;(focus kernel_rfl);(decide+kernel))|(apply ai 14;(focus kernel_rfl);(decide+kernel))|(apply ai 13;(focus kernel_rfl);(decide+kernel))|(apply ai 12;(focus kernel_rfl);(decide+kernel))|(apply ai 11;(focus kernel_rfl);(decide+kernel))|(apply ai 10;(focus kernel_rfl);(decide+kernel))|(apply ai 9;(focus kernel_rfl);(decide+kernel))|(apply ai 8;(focus kernel_rfl);(decide+kernel)));simp only[List.take_succ_cons,List.take_zero,List.drop_succ_cons,List.drop_zero]);refine aQ ?_;refine aQ ?_;refine aQ ?_;refine aQ ?_;refine cR ?_;refine bp ?_;refine vA ?_;(first|refine cE rfl rfl rfl aa zb11 aa aa ?_|((try refine aB ?_);refine aL1 rfl rfl rfl zb11 ?_));refine aQ ?_;refine aQ ?_;refine cR ?_;refine bp ?_;refine GL ?_;refine GM ?_;refine cR ?_;((try refine aB ?_);(refine kD (i:=r) rfl rfl rfl bq bq bc aa lW aa dL aa ae lX ?_));refine di ?_);(repeat(first|refine gk fun K hK=>?_|refine zs2 ?_))
     exact(aj (sl':=[(1,zI cN),(5, .own 19),(6,zI (r:Nat)),(7,zI (c:Nat))]) (ow':=[(19,⟨113,1,(Mc.map dZ).set r (dZ (Mx.neg (Mx.rw Mc r)))⟩)]) au ay)
    ·have hgs:¬sgn (Mx.at' Mc r c)<0:=fun h=>hneg (gn.1 h);have eG:Mx.bN r c Mc=Mc:=by unfold Mx.bN;rw[if_neg hneg]
     rw[eG]at TAIL2
     (repeat(first|refine gk fun K hK=>?_|refine zs2 ?_));refine Gf ?_;(repeat(first|refine gk fun K hK=>?_|refine zs2 ?_))
     refine az ?_
     (repeat(first|refine gk fun K hK=>?_|refine zs2 ?_))
     exact(aj (sl':=[(1,zI cN),(5, .own 19),(6,zI (r:Nat)),(7,zI (c:Nat))]) (ow':=[(19,⟨113,1,Mc.map dZ⟩)]) au ay)
  clear hK;have hred:0<cN-c:=by omega
  (refine aq (aj (sl':=[(1,zI cN),(5, .own 19),(6,zI (r:Nat)),(7,zI (c:Nat))]) (ow':=[(19,⟨113,1,M.map dZ⟩)]) au ay) ?_)
  refine aF (fun k s=>∃N,k=Mx.fK r c N/\Mx.Rc n N/\N.length=L/\Mx.Jn K0 r c N/\Mx.cv r c N=Mc/\s=⟨[(1,zI cN),(5, .own 19),(6,zI (r:Nat)),(7,zI (c:Nat))],[(19,⟨113,1,N.map dZ⟩)]⟩) (m:=Mx.fK r c M) ⟨M,rfl,hM,hML,hJ,hMc.symm,rfl⟩ fun k s hs=>?_;clear hJ hb hT hMc hML hM;obtain⟨N,rfl,hN,hNL,hJ,hNc,rfl⟩:=hs;have hNB:∀i,(Mx.at' N i c).natAbs<=2^E:=fun i=>Nat.le_trans (Mx.nI hJ i c) hKE
  (repeat(first|refine gk fun K hK=>?_|refine zs2 ?_));refine zR ?_;(repeat(first|refine gk fun K hK=>?_|refine zs2 ?_));refine iB ?_;(repeat(first|refine gk fun K hK=>?_|refine zs2 ?_))
  (refine aq (aj (sl':=[(1,zI cN),(5, .own 19),(6,zI (r:Nat)),(7,zI (c:Nat)),(8,zI (-1)),(9, .sc (.bool false)),(10,zI (r:Nat))]) (ow':=[(19,⟨113,1,N.map dZ⟩)]) au ay) ?_)
  refine aF (fun k s=>∃i,r<=i/\i<=L/\k=L-i/\s=⟨[(1,zI cN),(5, .own 19),(6,zI (r:Nat)),(7,zI (c:Nat)),(8,atD (Mx.scan c r N (i-r)).1),(9, .sc (.bool (decide (2<=(Mx.scan c r N (i-r)).2)))),(10,zI (i:Nat))],[(19,⟨113,1,N.map dZ⟩)]⟩) (m:=L-r) ⟨r,Nat.le_refl _,by omega,rfl,by rw[Nat.sub_self];rfl⟩ fun k s hs=>?_;obtain⟨i,hri,hiL,rfl,rfl⟩:=hs;by_cases hi:i<L
  ·have hgi:=eI (M:=N) (i:=i) (by omega);have hxi:=iW hN (show i<N.length by omega) hcn;have SX:=oB (Mx.at' N i c) (bC (hNB i) (by omega));have gx:=qz (Mx.at' N i c);by_cases h0:Mx.at' N i c=0
   ·have HZ:=Mx.Cn hri h0;rw[<-HZ];obtain⟨d8,h8⟩:∃d,d=atD (Mx.scan c r N (i+1-r)).1:=⟨_,rfl⟩;rw[<-h8]
    (repeat(first|refine gk fun K hK=>?_|refine zs2 ?_));refine aH ?_;(repeat(first|refine gk fun K hK=>?_|refine zs2 ?_))
    refine av ?_
    (repeat(first|refine gk fun K hK=>?_|refine zs2 ?_));refine pn ?_;(repeat(first|refine gk fun K hK=>?_|refine zs2 ?_))
    refine av ?_
    (repeat(first|refine gk fun K hK=>?_|refine zs2 ?_));refine aZ ?_;(repeat(first|refine gk fun K hK=>?_|refine zs2 ?_))
    simp only[nx,inB];exact⟨L-(i+1),_,by omega,(aj (sl':=[(1,zI cN),(5, .own 19),(6,zI (r:Nat)),(7,zI (c:Nat)),(8,d8),(9, .sc (.bool (decide (2<=(Mx.scan c r N (i+1-r)).2)))),(10,zI ((i+1:Nat):Int))]) (ow':=[(19,⟨113,1,N.map dZ⟩)]) au ay),i+1,by omega,by omega,rfl,by rw[h8]⟩
   ·cases hp:(Mx.scan c r N (i-r)).1 with
    |none=>
     have h2:=((Mx.dz c r N (i-r)).no hp).1;have HS:=Mx.Co hri h0 hp;rw[h2]at HS;rw[show atD none=zI (-1)from rfl,h2,show decide (2<=0)=false from rfl]
     (repeat(first|refine gk fun K hK=>?_|refine zs2 ?_));refine aH ?_;(repeat(first|refine gk fun K hK=>?_|refine zs2 ?_))
     refine av ?_
     (repeat(first|refine gk fun K hK=>?_|refine zs2 ?_));refine pn ?_;(repeat(first|refine gk fun K hK=>?_|refine zs2 ?_))
     refine az ?_
     (repeat(first|refine gk fun K hK=>?_|refine zs2 ?_));refine zL ?_;(repeat(first|refine gk fun K hK=>?_|refine zs2 ?_));(refine GK ?_;refine aQ ?_;refine zs81 ?_;refine aQ ?_;refine gM ?_;refine gM ?_;refine lv ?_;refine lT ?_;refine gM ?_;refine lv ?_;refine lT ?_;refine GJ ?_;refine gM ?_;refine gM ?_;refine lv ?_;refine lT ?_;refine gM ?_;refine lv ?_;refine lT ?_;refine GJ ?_;(first|(first|(refine aHs rfl rfl rfl rfl rfl ?_ ?_;(focus(apply aY;(conv=>lhs;whnf);(first|done|exact rfl|(apply aK;(first|(apply decide_eq_true;omega)|(apply decide_eq_false;omega)|assumption|(simp;done)))))))|refine nX rfl rfl rfl rfl rfl bK aa zb26 aa aa ?_)|((try refine aB ?_);(first|(refine aLs rfl rfl rfl rfl ?_ ?_;(focus(apply aY;(conv=>lhs;whnf);(first|done|exact rfl|(apply aK;(first|(apply decide_eq_true;omega)|(apply decide_eq_false;omega)|assumption|(simp;done)))))))|refine aLw rfl rfl rfl rfl bK zb26 ?_)));refine zs85 ?_;refine zu ?_;refine di ?_);(repeat(first|refine gk fun K hK=>?_|refine zs2 ?_))
     refine av ?_
     (repeat(first|refine gk fun K hK=>?_|refine zs2 ?_));refine iB ?_;(repeat(first|refine gk fun K hK=>?_|refine zs2 ?_));refine aZ ?_;(repeat(first|refine gk fun K hK=>?_|refine zs2 ?_))
     simp only[nx,inB];exact⟨L-(i+1),_,by omega,(aj (sl':=[(1,zI cN),(5, .own 19),(6,zI (r:Nat)),(7,zI (c:Nat)),(8,zI (i:Nat)),(9, .sc (.bool false)),(10,zI ((i+1:Nat):Int))]) (ow':=[(19,⟨113,1,N.map dZ⟩)]) au ay),i+1,by omega,by omega,rfl,by rw[HS];rfl⟩
    |some t=>
     have HT:=(Mx.dz c r N (i-r)).yes t hp;have htL:t<L:=by have:=HT.2.1;omega
     have hq1:1<=(Mx.scan c r N (i-r)).2:=HT.2.2.2.2.1;clear HT;have HLT:=Mx.yy hri h0 hp;have HGE:=Mx.yA hri h0 hp;obtain⟨q,hq⟩:∃q,q=(Mx.scan c r N (i-r)).2:=⟨_,rfl⟩;rw[<-hq]at HLT HGE hq1;rw[<-hq,show atD (some t)=zI (t:Nat)from rfl];clear hq hp;have hgt:=eI (M:=N) (i:=t) (by omega);have hxt:=iW hN (show t<N.length by omega) hcn;have S1:=Ci (Mx.at' N i c) (bC (hNB i) (by omega));have S2:=Ci (Mx.at' N t c) (bC (hNB t) (by omega));have CM:=Bk ((Mx.at' N i c).natAbs:Int) ((Mx.at' N t c).natAbs:Int) (jo (by rw[Int.natAbs_natCast];exact hNB i) (by omega)) (jo (by rw[Int.natAbs_natCast];exact hNB t) (by omega));have gs:=pG (((Mx.at' N i c).natAbs:Int)-((Mx.at' N t c).natAbs:Int));have hii:(i:Int)=((i:Nat):Int):=rfl;by_cases hlt:(Mx.at' N i c).natAbs<(Mx.at' N t c).natAbs
     ·have HS:=HLT hlt;clear HLT HGE;have hg:=gs.2 (by omega);by_cases h2q:2<=q;all_goals
       first
       |rw[show decide (2<=q)=true from decide_eq_true h2q]
       |rw[show decide (2<=q)=false from decide_eq_false h2q]
       (repeat(first|refine gk fun K hK=>?_|refine zs2 ?_));refine aH ?_;(repeat(first|refine gk fun K hK=>?_|refine zs2 ?_))
       refine av ?_
       (repeat(first|refine gk fun K hK=>?_|refine zs2 ?_));refine pn ?_;(repeat(first|refine gk fun K hK=>?_|refine zs2 ?_))
       refine az ?_
       (repeat(first|refine gk fun K hK=>?_|refine zs2 ?_));refine zL ?_;(repeat(first|refine gk fun K hK=>?_|refine zs2 ?_));refine Ge ?_;(repeat(first|refine gk fun K hK=>?_|refine zs2 ?_))
       refine av ?_
       (repeat(first|refine gk fun K hK=>?_|refine zs2 ?_));refine iB ?_;(repeat(first|refine gk fun K hK=>?_|refine zs2 ?_));refine aZ ?_;(repeat(first|refine gk fun K hK=>?_|refine zs2 ?_))
       simp only[nx,inB];exact⟨L-(i+1),_,by omega,(aj (sl':=[(1,zI cN),(5, .own 19),(6,zI (r:Nat)),(7,zI (c:Nat)),(8,zI (i:Nat)),(9, .sc (.bool true)),(10,zI ((i+1:Nat):Int))]) (ow':=[(19,⟨113,1,N.map dZ⟩)]) au ay),i+1,by omega,by omega,rfl,by rw[HS,show decide (2<=q+1)=true from decide_eq_true (by omega)];rfl⟩
     ·have HS:=HGE hlt;clear HLT HGE;have hg:¬sgn (((Mx.at' N i c).natAbs:Int)-((Mx.at' N t c).natAbs:Int))<0:=fun h=>hlt (by have:=gs.1 h;omega);by_cases h2q:2<=q;all_goals
       first
       |rw[show decide (2<=q)=true from decide_eq_true h2q]
       |rw[show decide (2<=q)=false from decide_eq_false h2q]
       (repeat(first|refine gk fun K hK=>?_|refine zs2 ?_));refine aH ?_;(repeat(first|refine gk fun K hK=>?_|refine zs2 ?_))
       refine av ?_
       (repeat(first|refine gk fun K hK=>?_|refine zs2 ?_));refine pn ?_;(repeat(first|refine gk fun K hK=>?_|refine zs2 ?_))
       refine az ?_
       (repeat(first|refine gk fun K hK=>?_|refine zs2 ?_));refine zL ?_;(repeat(first|refine gk fun K hK=>?_|refine zs2 ?_));refine Ge ?_;(repeat(first|refine gk fun K hK=>?_|refine zs2 ?_))
       refine az ?_
       (repeat(first|refine gk fun K hK=>?_|refine zs2 ?_));refine aZ ?_;(repeat(first|refine gk fun K hK=>?_|refine zs2 ?_))
       simp only[nx,inB];exact⟨L-(i+1),_,by omega,(aj (sl':=[(1,zI cN),(5, .own 19),(6,zI (r:Nat)),(7,zI (c:Nat)),(8,zI (t:Nat)),(9, .sc (.bool true)),(10,zI ((i+1:Nat):Int))]) (ow':=[(19,⟨113,1,N.map dZ⟩)]) au ay),i+1,by omega,by omega,rfl,by rw[HS,show decide (2<=q+1)=true from decide_eq_true (by omega)];rfl⟩
  ·obtain rfl:i=L:=by omega
   have hpk:Mx.pick r c N=Mx.scan c r N (i-r):=by unfold Mx.pick;rw[hNL]
   cases hp:(Mx.scan c r N (i-r)).1 with
   |none=>
    have eN:N=Mc:=by rw[<-hNc,Mx.oV (by rw[hpk];exact hp)]
    rw[<-eN]at TAIL;rw[show atD none=zI (-1)from rfl]
    (repeat(first|refine gk fun K hK=>?_|refine zs2 ?_));refine aH ?_;(repeat(first|refine gk fun K hK=>?_|refine zs2 ?_))
    refine az ?_
    (repeat(first|refine gk fun K hK=>?_|refine zs2 ?_));refine eW ?_;(repeat(first|refine gk fun K hK=>?_|refine zs2 ?_))
    refine av ?_
    (refine aq (aj (sl':=[(1,zI cN),(5, .own 19),(6,zI (r:Nat)),(7,zI (c:Nat))]) (ow':=[(19,⟨113,1,N.map dZ⟩)]) au ay) ?_)
    (repeat(first|refine gk fun K hK=>?_|refine zs2 ?_))
    all_goals((simp only[nx,inB,ite_true,ite_false,↓reduceIte,Nat.reduceEqDiff,reduceCtorEq]);apply_assumption-exfalso)
   |some t=>
    have HT:=(Mx.dz c r N (i-r)).yes t hp;have htL:t<i:=by have:=HT.2.1;omega
    have htz:=HT.2.2.1;have hq1:1<=(Mx.scan c r N (i-r)).2:=HT.2.2.2.2.1;clear HT;have hp':(Mx.pick r c N).1=some t:=by rw[hpk];exact hp
    have ONE:=Mx.qX (r:=r) (c:=c) (M:=N) hp';have STP:=Mx.oU hN hp';have MEA:=Mx.gl hN hp';have JST:=Mx.tX hN hJ hp';rw[hpk]at ONE STP MEA JST;obtain⟨q,hq⟩:∃q,q=(Mx.scan c r N (i-r)).2:=⟨_,rfl⟩;rw[<-hq]at hq1 ONE STP MEA JST;rw[<-hq,show atD (some t)=zI (t:Nat)from rfl];clear hq hp hp' hpk;have hgr:=eI (M:=N) (i:=r) (by omega);have hgt:=eI (M:=N) (i:=t) (by omega);have hsm:=Ia N r t;have hrr':(r:Int)=((r:Nat):Int):=rfl;have htt':(t:Int)=((t:Nat):Int):=rfl
    (repeat(first|refine gk fun K hK=>?_|refine zs2 ?_));refine aH ?_;(repeat(first|refine gk fun K hK=>?_|refine zs2 ?_))
    refine az ?_
    (repeat(first|refine gk fun K hK=>?_|refine zs2 ?_));refine eW ?_;(repeat(first|refine gk fun K hK=>?_|refine zs2 ?_))
    refine az ?_
    (repeat(first|refine gk fun K hK=>?_|refine zs2 ?_));((refine oZ [] ae (by exact lE) ?_);refine bA ?_;refine bA ?_;refine bA ?_;refine bA ?_;refine bA ?_;refine bA ?_;refine dJ ?_;refine eX ?_;refine bA ?_;refine bA ?_;refine dJ ?_;refine eX ?_;refine dJ ?_;(refine qc (i:=r) rfl rfl rfl bq bq bc aa lW aa dL aa ae lX ?_);refine dJ ?_;(refine qc (i:=t) rfl rfl rfl bq bq bc aa lW aa dL aa ae lX ?_);(refine pa ae ?_));(repeat(first|refine gk fun K hK=>?_|refine zs2 ?_))
    (refine aq (aj (sl':=[(1,zI cN),(5, .own 19),(6,zI (r:Nat)),(7,zI (c:Nat)),(9, .sc (.bool (decide (2<=q))))]) (ow':=[(19,⟨113,1,((N.map dZ).set r (dZ (Mx.rw N t))).set t (dZ (Mx.rw N r))⟩)]) au ay) ?_)
    rw[hsm];by_cases hq2:q=1
    ·have eN:Mx.swp N r t=Mc:=by rw[<-hNc,ONE hq2]
     rw[<-eN]at TAIL
     (repeat(first|refine gk fun K hK=>?_|refine zs2 ?_));refine ri ?_;(repeat(first|refine gk fun K hK=>?_|refine zs2 ?_))
     refine av ?_
     (refine aq (aj (sl':=[(1,zI cN),(5, .own 19),(6,zI (r:Nat)),(7,zI (c:Nat))]) (ow':=[(19,⟨113,1,(Mx.swp N r t).map dZ⟩)]) au ay) ?_)
     (repeat(first|refine gk fun K hK=>?_|refine zs2 ?_))
     all_goals((simp only[nx,inB,ite_true,ite_false,↓reduceIte,Nat.reduceEqDiff,reduceCtorEq]);apply_assumption-exfalso)
    ·have HE:=(STP hq2).symm.trans hNc;obtain⟨hrN,htN,hrt,hmeas⟩:=MEA hq2;obtain⟨hJB,hJ2⟩:=JST hq2;clear STP MEA JST ONE hsm hgr hgt;have hSR:=Mx.jG hN hrN htN;have hSL:(Mx.swp N r t).length=i:=by rw[Mx.ck];exact hNL
     have hpiv:Mx.at' (Mx.swp N r t) r c≠0:=by
      rw[Mx.bR hrN htN];split
      ·rename_i e;rw[e];exact htz
      ·rw[if_pos rfl];exact htz
     unfold Mx.elim at HE hmeas hJ2;rw[hNL]at hJB;rw[hSL]at HE hmeas hJ2;obtain⟨S,hS⟩:∃S,S=Mx.swp N r t:=⟨_,rfl⟩;rw[<-hS]at HE hmeas hJ2 hSR hSL hpiv hJB;rw[<-hS];clear hS TAIL
     (repeat(first|refine gk fun K hK=>?_|refine zs2 ?_));refine ri ?_;(repeat(first|refine gk fun K hK=>?_|refine zs2 ?_))
     refine az ?_
     (repeat(first|refine gk fun K hK=>?_|refine zs2 ?_));refine aZ ?_;(repeat(first|refine gk fun K hK=>?_|refine zs2 ?_))
     (refine aq (aj (sl':=[(1,zI cN),(5, .own 19),(6,zI (r:Nat)),(7,zI (c:Nat)),(11,zI ((r+1:Nat):Int))]) (ow':=[(19,⟨113,1,S.map dZ⟩)]) au ay) ?_)
     refine aF (fun k s=>∃j,r+1<=j/\j<=i/\k=i-j/\s=⟨[(1,zI cN),(5, .own 19),(6,zI (r:Nat)),(7,zI (c:Nat)),(11,zI (j:Nat))],[(19,⟨113,1,(Mx.aD r c (r+1) S (j-(r+1))).map dZ⟩)]⟩) (m:=i-(r+1)) ⟨r+1,Nat.le_refl _,by omega,rfl,by rw[Nat.sub_self];rfl⟩ fun k s hs=>?_;obtain⟨j,hrj,hji,rfl,rfl⟩:=hs;by_cases hj:j<i
     ·have HNX : Mx.aD r c (r + 1) S (j + 1 - (r + 1)) = (Mx.aD r c (r + 1) S (j - (r + 1))).set j (Mx.cq (Mx.rw (Mx.aD r c (r + 1) S (j - (r + 1))) r) c (Mx.rw (Mx.aD r c (r + 1) S (j - (r + 1))) j)) := by
       rw[show j+1-(r+1)=(j-(r+1))+1 by omega,Mx.iR (by omega) (by rw[hSL];omega),show r+1+(j-(r+1))=j by omega]
      have hpn:Mx.at' (Mx.aD r c (r+1) S (j-(r+1))) r c≠0:=by
       unfold Mx.at';rw[Mx.cM r c (r+1) S (j-(r+1)) (by rw[hSL];omega) r,if_neg (by omega)];exact hpiv
      have hBN:=(hJB (j-(r+1)) (by omega)).mono hKE;have hRN:Mx.Rc n (Mx.aD r c (r+1) S (j-(r+1))):=Mx.js hSR (by omega) _ (by omega);have hLN:(Mx.aD r c (r+1) S (j-(r+1))).length=i:=by rw[Mx.cC];exact hSL
      obtain⟨A,hA⟩:∃A,A=Mx.aD r c (r+1) S (j-(r+1)):=⟨_,rfl⟩;rw[<-hA]at HNX hpn hBN hRN hLN;rw[<-hA];clear hA hJB hJ2 hmeas HE;have hgj:=eI (M:=A) (i:=j) (by omega);have hgr:=eI (M:=A) (i:=r) (by omega);have hxj:=iW hRN (show j<A.length by omega) hcn;have hxr:=iW hRN (show r<A.length by omega) hcn;have DM:=xu (Mx.at' A j c) (Mx.at' A r c) (bC (hBN j c) (by omega)) (bC (hBN r c) (by omega)) hpn;have TK:=vT (c:=c) hRN (show j<A.length by omega) (show r<A.length by omega) hn hBN hEf;have hjj:(j:Int)=((j:Nat):Int):=rfl
      (repeat(first|refine gk fun K hK=>?_|refine zs2 ?_));refine aH ?_;(repeat(first|refine gk fun K hK=>?_|refine zs2 ?_))
      refine av ?_
      (repeat(first|refine gk fun K hK=>?_|refine zs2 ?_));((refine oZ [12,13] ae zb19 ?_);refine bA ?_;refine bA ?_;refine dJ ?_;refine eX ?_;refine bA ?_;refine dJ ?_;refine eX ?_;refine bA ?_;refine bA ?_;refine dJ ?_;refine eX ?_;refine bA ?_;refine dJ ?_;refine eX ?_;refine Ae ?_;refine bA ?_;refine pw ?_;refine pw ?_;refine pw ?_;(refine mR (k:=12) (z:=(.agg #[.bool false, .slice none 0 0])) (d:=(.nm 0)) rfl rfl rfl rfl rfl ae aa aa dL aa aa ?_);(refine mR (k:=13) (z:=(.agg #[.bool false, .slice none 0 0])) (d:=(.nm 0)) rfl rfl rfl rfl rfl ae aa aa dL aa aa ?_);refine rq ?_;refine rq ?_;refine GN ?_;(refine pa ae ?_));(repeat(first|refine gk fun K hK=>?_|refine zs2 ?_))
      (refine aq (aj (sl':=[(1,zI cN),(5, .own 19),(6,zI (r:Nat)),(7,zI (c:Nat)),(11,zI (j:Nat)),(12, .opt 12 0)]) (ow':=[(12,⟨62,2,[.nm (Mx.at' A j c/Mx.at' A r c)]⟩),(19,⟨113,1,A.map dZ⟩)]) au ay) ?_)
      (repeat(first|refine gk fun K hK=>?_|refine zs2 ?_));refine Gg ?_;(repeat(first|refine gk fun K hK=>?_|refine zs2 ?_));refine aZ ?_;(repeat(first|refine gk fun K hK=>?_|refine zs2 ?_))
      simp only[nx,inB];exact⟨i-(j+1),_,by omega,(aj (sl':=[(1,zI cN),(5, .own 19),(6,zI (r:Nat)),(7,zI (c:Nat)),(11,zI ((j+1:Nat):Int))]) (ow':=[(19,⟨113,1,(A.map dZ).set j (dZ (Mx.cq (Mx.rw A r) c (Mx.rw A j)))⟩)]) au ay),j+1,by omega,by omega,rfl,by rw[HNX,List.map_set]⟩
     ·obtain rfl:j=i:=by omega
      have hLN:(Mx.aD r c (r+1) S (j-(r+1))).length=j:=by rw[Mx.cC];exact hSL
      (repeat(first|refine gk fun K hK=>?_|refine zs2 ?_));refine aH ?_;(repeat(first|refine gk fun K hK=>?_|refine zs2 ?_))
      refine az ?_
      (repeat(first|refine gk fun K hK=>?_|refine zs2 ?_))
      simp only[nx,inB];exact⟨_,_,hmeas,(aj (sl':=[(1,zI cN),(5, .own 19),(6,zI (r:Nat)),(7,zI (c:Nat))]) (ow':=[(19,⟨113,1,(Mx.aD r c (r+1) S (j-(r+1))).map dZ⟩)]) au ay),_,rfl,Mx.js hSR (by omega) (j-(r+1)) (by omega),by rw[Mx.cC];exact hSL,hJ2,HE,rfl⟩
 ·have eT : T.2 = M := by
   by_cases h1:c<cN
   ·rw[Mx.qD (by omega)]at hT;rw[<-hT]
   ·rw[show cN-c=0 by omega]at hT;rw[<-hT];rfl
  by_cases h1:c<cN
  ·have hd1:decide ((c:Int)<(cN:Int))=true:=decide_eq_true (by omega)
   (repeat(first|refine gk fun K hK=>?_|refine zs2 ?_));refine zM ?_;(repeat(first|refine gk fun K hK=>?_|refine zs2 ?_))
   refine az ?_
   (repeat(first|refine gk fun K hK=>?_|refine zs2 ?_))
   refine aq (aG (k:=19) bc bJ bI) ?_;refine iB ?_
   (repeat(first|refine gk fun K hK=>?_|refine zs2 ?_))
   rw[eT];exact⟨_,Sh.refl, .one (.tmp 4) _ rfl (.tmp 4 rfl)⟩
  ·have hd1:decide ((c:Int)<(cN:Int))=false:=decide_eq_false (by omega)
   (repeat(first|refine gk fun K hK=>?_|refine zs2 ?_));refine zM ?_;(repeat(first|refine gk fun K hK=>?_|refine zs2 ?_))
   refine az ?_
   (repeat(first|refine gk fun K hK=>?_|refine zs2 ?_))
   refine aq (aG (k:=19) bc bJ bI) ?_;refine iB ?_
   (repeat(first|refine gk fun K hK=>?_|refine zs2 ?_))
   rw[eT];exact⟨_,Sh.refl, .one (.tmp 4) _ rfl (.tmp 4 rfl)⟩
theorem Dq(m:Mx.Mat)(n cN e:Nat)(hR:Mx.Rc n m)(hc:cN<=n)(hn:n<=1000)(hm:m.length<=1000)(he:6<=e)(hf:2*(e*11^m.length)<=3000000000)(hb:Mx.Bd (2^e) m):
 Fn Tryz.prog 78 [dW m,zI cN] (dW (Mx.red cN 0 (0,m)).2):=Dp m n cN e m.length hR hc hn hm he (.inl (Nat.le_refl _)) hf hb
end DW
end
end Go.Proofs.YtcgjmdpcplhanaaGreat
