/- Lemmas for the law: E14 -/
import Derived.Test.YtcgjmdpcplhanaaGreatZs9
namespace Go.Proofs.YtcgjmdpcplhanaaGreat
section
abbrev EA:=@List.eq_of_mem_replicate
theorem JI{p q:Prop}(h:q)(f:Wq q->p:=by(intro hW;(refine bT ?_;refine pQ ?_;refine gO ?_;refine zs8 ?_;refine Ei ?_;refine zs62 ?_;refine nP ?_;refine aQ ?_);exact hW.out)):p:=f ⟨h⟩
theorem J8{p q:Prop}(h:q)(f:Wq q->p:=by(intro hW;((first|refine fo rfl rfl rfl ai zb2 ai ai ?_|((try refine bf ?_);refine aL1 rfl rfl rfl zb2 ?_)));exact hW.out)):p:=f ⟨h⟩
theorem fZ{p q:Prop}(h:q)(f:Wq q->p:=by(intro hW;((first|refine aN1 rfl rfl rfl uC ?_|refine ph rfl rfl rfl uC ?_));exact hW.out)):p:=f ⟨h⟩
theorem Dw{p q:Prop}(h:q)(f:Wq q->p:=by(intro hW;((first|refine aN1 rfl rfl rfl zb4 ?_|refine U1 rfl rfl rfl rfl ck ck aX ah ah (by first|omega|(simp;omega)) (by first|(apply fP;assumption)|exact rfl) ?_|refine ph rfl rfl rfl zb4 ?_));exact hW.out)):p:=f ⟨h⟩
theorem Et{p:Prop}(h:p:=by(apply Jb;(exact rfl);(focus((apply aE;(conv=>lhs;whnf);(first|done|exact rfl))));(focus((apply aE;(conv=>lhs;whnf);(first|done|exact rfl))));(focus((apply aE;(conv=>lhs;whnf);(first|done|exact rfl))));(exact rfl);(exact rfl);(exact rfl);(assumption);(exact rfl))):p:=h
theorem J9{p q:Prop}(h:q)(f:Wq q->p:=by(intro hW;((first|refine fo rfl rfl rfl ai Et ai ai ?_|((try refine bf ?_);refine aL1 rfl rfl rfl Et ?_)));exact hW.out)):p:=f ⟨h⟩
theorem zs111{p q:Prop}(h:q)(f:Wq q->p:=by(intro hW;(((try refine bf ?_);(refine pj (i:=j) rfl rfl rfl ck ck aX ai qz ai cX ai ah qA ?_)));exact hW.out)):p:=f ⟨h⟩
theorem Re{p q:Prop}(h:q)(f:Wq q->p:=by(intro hW;(refine zs94 ?_;refine ib ?_;refine ib ?_;refine jK ?_;refine jK ?_;refine eJ ?_;refine J9 ?_;refine zs29 ?_;refine zs111 ?_;refine qy ?_);exact hW.out)):p:=f ⟨h⟩
theorem lU{p q:Prop}(h:q)(f:Wq q->p:=by(intro hW;(refine Wr ah ?_);exact hW.out)):p:=f ⟨h⟩
theorem R8{p q:Prop}(h:q)(f:Wq q->p:=by(intro hW;((refine yd (k:=19) (wd:=1) (T:=Tryz.prog.elem 27) rfl rfl rfl rfl ah ah ai ai cj ?_));exact hW.out)):p:=f ⟨h⟩
theorem mU{p q:Prop}(h:q)(f:Wq q->p:=by(intro hW;((first|refine aN1 rfl rfl rfl Es ?_|refine ph rfl rfl rfl Es ?_));exact hW.out)):p:=f ⟨h⟩
theorem lV{p q:Prop}(h:q)(f:Wq q->p:=by(intro hW;((first|refine aN1 rfl rfl rfl vN ?_|refine ph rfl rfl rfl vN ?_));exact hW.out)):p:=f ⟨h⟩
theorem dH{p q:Prop}(h:q)(f:Wq q->p:=by(intro hW;((first|refine aN1 rfl rfl rfl zb1 ?_|refine ph rfl rfl rfl zb1 ?_));exact hW.out)):p:=f ⟨h⟩
theorem mR{p q:Prop}(h:q)(f:Wq q->p:=by(intro hW;(refine fZ ?_;refine Dw ?_;refine dH ?_);exact hW.out)):p:=f ⟨h⟩
theorem Qw{p q:Prop}(h:q)(f:Wq q->p:=by(intro hW;(refine fZ ?_;refine mR ?_;refine mR ?_;refine fZ ?_;refine mR ?_;refine mR ?_;refine lV ?_;refine fZ ?_;refine mU ?_;refine mU ?_;refine mU ?_);exact hW.out)):p:=f ⟨h⟩
theorem xm{p q:Prop}(h:q)(f:Wq q->p:=by(intro hW;(refine bT ?_;refine nK ?_;refine lT ?_;refine ll ?_;refine Br ?_;refine aQ ?_);exact hW.out)):p:=f ⟨h⟩
theorem rM{p q:Prop}(h:q)(f:Wq q->p:=by(intro hW;(refine rz [] ah (by exact se) ?_);exact hW.out)):p:=f ⟨h⟩
theorem RX{p q:Prop}(h:q)(f:Wq q->p:=by(intro hW;((first|(first|(refine aHs rfl rfl rfl rfl rfl ?_ ?_;(focus(apply bz;(conv=>lhs;whnf);(first|done|exact rfl|(apply br;(first|(apply aD;omega)|(apply aG;omega)|assumption|(simp;done)))))))|refine vF rfl rfl rfl rfl rfl cI ai zb39 ai ai ?_)|((try refine bf ?_);(first|(refine aLs rfl rfl rfl rfl ?_ ?_;(focus(apply bz;(conv=>lhs;whnf);(first|done|exact rfl|(apply br;(first|(apply aD;omega)|(apply aG;omega)|assumption|(simp;done)))))))|refine aLw rfl rfl rfl rfl cI zb39 ?_))));exact hW.out)):p:=f ⟨h⟩
theorem zb28{p:Prop}(h:p:=by(apply mj;(exact rfl);(focus((apply aE;(conv=>lhs;whnf);(first|done|exact rfl))));(focus((apply aE;(conv=>lhs;whnf);(first|done|exact rfl))));(exact rfl);(exact rfl);(focus((first|exact fail)));(exact rfl))):p:=h
theorem jP{p q:Prop}(h:q)(f:Wq q->p:=by(intro hW;((refine xZ (i:=0) rfl rfl rfl ck ck aX ai qz ai cX ai ah qA ?_));exact hW.out)):p:=f ⟨h⟩
theorem RZ{p q:Prop}(h:q)(f:Wq q->p:=by(intro hW;((first|(apply aI 21;(focus kernel_rfl);(decide+kernel))|(apply aI 20;(focus kernel_rfl);(decide+kernel))|(apply aI 19;(focus kernel_rfl);(decide+kernel))|(apply aI 18;(focus kernel_rfl);(decide+kernel))|(apply aI 17;(focus kernel_rfl);(decide+kernel))|(apply aI 16;(focus kernel_rfl);(decide+kernel))|(apply aI 15;(focus kernel_rfl);(decide+kernel))|(apply aI 14;(focus kernel_rfl);(decide+kernel)));simp only[eu,dw,eU,du]);exact hW.out)):p:=f ⟨h⟩
theorem RY{p q:Prop}(h:q)(f:Wq q->p:=by(intro hW;((first|(first|(refine aHs rfl rfl rfl rfl rfl ?_ ?_;(focus(apply bz;(conv=>lhs;whnf);(first|done|exact rfl|(apply br;(first|(apply aD;omega)|(apply aG;omega)|assumption|(simp;done)))))))|refine vF rfl rfl rfl rfl rfl cI ai zb4 ai ai ?_)|((try refine bf ?_);(first|(refine aLs rfl rfl rfl rfl ?_ ?_;(focus(apply bz;(conv=>lhs;whnf);(first|done|exact rfl|(apply br;(first|(apply aD;omega)|(apply aG;omega)|assumption|(simp;done)))))))|refine aLw rfl rfl rfl rfl cI zb4 ?_))));exact hW.out)):p:=f ⟨h⟩
theorem J7{p q:Prop}(h:q)(f:Wq q->p:=by(intro hW;((first|(first|(refine aHs rfl rfl rfl rfl rfl ?_ ?_;(focus(apply bz;(conv=>lhs;whnf);(first|done|exact rfl|(apply br;(first|(apply aD;omega)|(apply aG;omega)|assumption|(simp;done)))))))|refine vF rfl rfl rfl rfl rfl cI ai uC ai ai ?_)|((try refine bf ?_);(first|(refine aLs rfl rfl rfl rfl ?_ ?_;(focus(apply bz;(conv=>lhs;whnf);(first|done|exact rfl|(apply br;(first|(apply aD;omega)|(apply aG;omega)|assumption|(simp;done)))))))|refine aLw rfl rfl rfl rfl cI uC ?_))));exact hW.out)):p:=f ⟨h⟩
theorem Di{p q:Prop}(h:q)(f:Wq q->p:=by(intro hW;(refine J7 ?_;refine J7 ?_;refine RY ?_;refine zs85 ?_;refine J7 ?_;refine RY ?_;refine zs85 ?_);exact hW.out)):p:=f ⟨h⟩
theorem JH{p q:Prop}(h:q)(f:Wq q->p:=by(intro hW;(refine bT ?_;refine zs8 ?_;refine vJ ?_;refine mu ?_;refine cT ?_);exact hW.out)):p:=f ⟨h⟩
theorem xj{p q:Prop}(h:q)(f:Wq q->p:=by(intro hW;(refine cE ?_;refine nD ?_;refine aQ ?_);exact hW.out)):p:=f ⟨h⟩
theorem zb79{p:Prop}(h:p:=by rw[qI,fH];exact hb):p:=h
theorem ao{p q:Prop}(h:q)(f:Wq q->p:=by(intro hW;(first|refine G4 ?_|refine Jp ?_|refine Jq ?_|refine Om ?_|((simp only[nx,inB,ite_true,ite_false,↓reduceIte,Nat.reduceEqDiff,reduceCtorEq]);apply_assumption-exfalso));exact hW.out)):p:=f ⟨h⟩
theorem RT{p q:Prop}(h:q)(f:Wq q->p:=by(intro hW;((first|(first|(refine aHs rfl rfl rfl rfl rfl ?_ ?_;(focus(apply bz;(conv=>lhs;whnf);(first|done|exact rfl|(apply br;(first|(apply aD;omega)|(apply aG;omega)|assumption|(simp;done)))))))|refine vF rfl rfl rfl rfl rfl cI ai vM ai ai ?_)|((try refine bf ?_);(first|(refine aLs rfl rfl rfl rfl ?_ ?_;(focus(apply bz;(conv=>lhs;whnf);(first|done|exact rfl|(apply br;(first|(apply aD;omega)|(apply aG;omega)|assumption|(simp;done)))))))|refine aLw rfl rfl rfl rfl cI vM ?_))));exact hW.out)):p:=f ⟨h⟩
theorem Rb{p q:Prop}(h:q)(f:Wq q->p:=by(intro hW;(refine RZ ?_;refine ib ?_;refine zs84 ?_;refine ib ?_;refine Di ?_;refine RT ?_;refine Di ?_;refine RT ?_;refine zs87 ?_;refine zs88 ?_;refine zs89 ?_;refine qy ?_);exact hW.out)):p:=f ⟨h⟩
theorem Ki{p:Prop}(h:p:=by(apply jX;(focus((apply jX;(exact se);(focus((repeat(first|exact lF|(apply jG;(exact rfl))|(apply lG;(exact rfl)))))))));(focus((repeat(first|exact lF|(apply jG;(exact rfl))|(apply lG;(exact rfl)))))))):p:=h
theorem Rd{p q:Prop}(h:q)(f:Wq q->p:=by(intro hW;(refine bT ?_;refine nK ?_;refine lT ?_;refine ll ?_;refine zs7 ?_;refine aQ ?_);exact hW.out)):p:=f ⟨h⟩
theorem zb12{p:Prop}(h:p:=by(apply(Wg (zv:=(.agg #[.bool false,.slice none 0 0])) (d0:=(.nm 0)) (wd:=2));(exact rfl);(focus((apply aE;(conv=>lhs;whnf);(first|done|exact rfl))));(focus((apply aE;(conv=>lhs;whnf);(first|done|exact rfl))));(kernel_rfl);(kernel_rfl);(exact rfl);(exact rfl);(exact rfl);(exact rfl);(exact rfl);(omega);(focus(first|exact nY _|exact rfl)))):p:=h
theorem rN{p q:Prop}(h:q)(f:Wq q->p:=by(intro hW;((first|refine aN1 rfl rfl rfl Ep ?_|refine ph rfl rfl rfl Ep ?_));exact hW.out)):p:=f ⟨h⟩
end
section
open Go.RowKit
namespace DW
def atD:Option Nat->D
 |none=>zI (-1)
 |some t=>zI (t:Nat)
theorem gJ{M:Mx.Mat}{i:Nat}(h:i<M.length):M[i]?=some (Mx.rw M i):=by
 unfold Mx.rw;rw[aq,aV h];rfl
theorem pP{M:Mx.Mat}{n i c:Nat}(hM:Mx.Rc n M)(h:i<M.length)(hc:c<n):(Mx.rw M i)[c]?=some (Mx.at' M i c):=by
 unfold Mx.at';rw[aq,aV (by rw[hM.rw h];exact hc)];rfl
theorem VW{z:Int}{e k:Nat}(h:z.natAbs<=2^e)(he:e<16*k):(hd z.natAbs).length<=k:=jH (by
 have h1:(65536:Nat)^k=2^(16*k):=by rw[show(65536:Nat)=2^16 by rfl,<-qG]
 rw[h1];exact gY h (zG aa he))
theorem Fh(z:Int):sgn z=0↔z=0:=by unfold sgn;split<;>(try split)<;>omega
theorem uc{z:Int}{e:Nat}(h:z.natAbs<=2^e)(he:e<=3000000000):(hd z.natAbs).length<=199999999:=VW h aa
theorem cB{z:Int}{e:Nat}(h:z.natAbs<=2^e)(he:e<=3000000000):Hf z:=aB (uc h he) au
theorem EW{N:Mx.Mat}{n i r c E:Nat}(hN:Mx.Rc n N)(hi:i<N.length)(hr:r<N.length)(hn:n<=1000)(hb:Mx.Bd (2^E) N)(hE:2*E<=3000000000):Fn Tryz.prog 149 [dZ (Mx.rw N i),dZ (Mx.rw N r),.nm (Mx.at' N i c/Mx.at' N r c)] (dZ (Mx.eO (Mx.rw N r) c (Mx.rw N i))):=by
 have hm:∀{i:Nat} {x:Int},x∈Mx.rw N i->x.natAbs<=2^E:=fun {i x} hx=>by
  obtain⟨j,hj,e⟩:=lX hx;have:=hb i j;unfold Mx.at' at this;rw[aq,aV hj,e]at this;exact this
 have hq:(Mx.at' N i c/Mx.at' N r c).natAbs<=2^E:=aB (Mx.jI _ _) (hb i c);refine LV (Mx.rw N i) (Mx.rw N r) _ (by rw[hN.rw hi,hN.rw hr]) (by rw[hN.rw hi];omega) (fun x hx=>cB (hm hx) aa) (fun y hy=>⟨cB (hm hy) aa,cB (e:=E+E) ?_ aa⟩) (cB hq aa);rw[gG,eZ];exact cr hq (hm hy)
theorem Tw(N:Mx.Mat)(r t:Nat):((N.map dZ).set r (dZ (Mx.rw N t))).set t (dZ (Mx.rw N r))=(Mx.swp N r t).map dZ:=by
 unfold Mx.swp;rw[lu,lu]
set_option maxRecDepth 20000
set_option maxHeartbeats 2000000
theorem C5(m:Mx.Mat)(n cN E:Nat){I:Nat->Mx.Mat->Prop}{J:Nat->Nat->Mx.Mat->Prop}(D:Mx.Disc n E m.length cN I J)(hR:Mx.Rc n m)(hc:cN<=n)(hn:n<=1000)(hm:m.length<=1000)(hEf:2*E<=3000000000)(hb:I 0 m):
  Fn Tryz.prog 78 [dW m,zI cN] (dW (Mx.red cN 0 (0,m)).2):=by
 obtain⟨T,hT⟩:∃T,T=Mx.red cN 0 (0,m):=⟨_,rfl⟩;rw[<-hT];obtain⟨L,hL⟩:∃L,L=m.length:=⟨_,rfl⟩;rw[<-hL]at D;refine bg Tryz.func78 ah rfl rfl rfl fun X0=>?_;simp only[aP]
 (repeat(first|refine gk fun K hK=>?_|refine ao ?_));refine mT ?_;(repeat(first|refine gk fun K hK=>?_|refine ao ?_));refine gar ?_;refine R8 ?_;refine zs4 ?_;(refine lQ rfl rfl rfl rfl ck ck aX ai pR ah ah (by(simp only[bD,gW];omega)) cj sK ?_);refine cT ?_;(repeat(first|refine gk fun K hK=>?_|refine ao ?_));refine mS ?_;(repeat(first|refine gk fun K hK=>?_|refine ao ?_));refine mS ?_;(repeat(first|refine gk fun K hK=>?_|refine ao ?_))
 (refine av (ay (sl':=[(1,zI cN),(5, .own 19),(6,zI 0),(7,zI 0)]) (ow':=[(19,⟨113,1,m.map dZ⟩)]) aF aH) ?_)
 refine bh (fun k s=>∃r c M,k=cN-c/\c<=cN/\Mx.Rc n M/\M.length=L/\(r<=L/\r<=c)/\Mx.red (cN-c) c (r,M)=T/\I r M/\s=⟨[(1,zI cN),(5, .own 19),(6,zI (r:Nat)),(7,zI (c:Nat))],[(19,⟨113,1,M.map dZ⟩)]⟩) (m:=cN) ⟨0,0,m,rfl,aO _,hR,hL.symm,⟨aO _,aO _⟩,hT.symm,hb,rfl⟩ fun k s hs=>?_;clear hT hb;obtain⟨r,c,M,rfl,hcN,hM,hML,hr,hT,hb,rfl⟩:=hs;by_cases hgo:c<cN/\r<L
 ·obtain⟨hcc,hrr⟩:=hgo;have hd1:decide ((c:Int)<(cN:Int))=true:=aD aa;have hcn:c<n:=by omega
  (repeat(first|refine gk fun K hK=>?_|refine ao ?_));refine JI ?_;(repeat(first|refine gk fun K hK=>?_|refine ao ?_))
  refine fe ?_
  (repeat(first|refine gk fun K hK=>?_|refine ao ?_))
  obtain⟨Mc,hMc⟩:∃Mc,Mc=Mx.cH r c M:=⟨_,rfl⟩;have hJ:J r c M:=D.ij hM hML hrr hr.2 hcc hb;have hcl:=(Mx.lM (r:=r) (c:=c) hM).1.re;have hMcR:Mx.Rc n Mc:=by rw[hMc];exact hcl.rc hM
  have hMcL:Mc.length=L:=by rw[hMc,hcl.len];exact hML
  have hMcB:Mx.Bd (2^E) Mc:=by rw[hMc];exact D.cb hM hML hrr hr.2 hcc hb
  have hB0:Mx.at' Mc r c=0->I r Mc:=fun h0=>by
   rw[hMc]at h0⊢;rw[(Mx.Da (r:=r) (c:=c) hM).resolve_right (fun hh=>hh h0)];exact hb
  obtain⟨hAB,hAI⟩:=D.ab hM hML hrr hr.2 hcc hb;rw[<-hMc]at hAB hAI;clear hcl;have TAIL:K ⟨[(1,zI cN),(5, .own 19),(6,zI (r:Nat)),(7,zI (c:Nat))],[(19,⟨113,1,Mc.map dZ⟩)]⟩:=by
   apply hK;have hrM:r<Mc.length:=by omega
   have hgr:=gJ hrM;have hxr:=pP hMcR hrM hcn;have SX:=tM (Mx.at' Mc r c) (cB (hMcB r c) aa);have gx:=Fh (Mx.at' Mc r c);have gn:=xI (Mx.at' Mc r c);have hT1:Mx.red (cN-(c+1)) (c+1) (Mx.step r c M)=T:=by
    rw[<-hT,show cN-c=cN-(c+1)+1 by omega,Mx.AG aa]
   by_cases h0:Mx.at' Mc r c=0
   ·have eS : Mx.step r c M = (r, Mc) := by
     unfold Mx.step;simp only[];rw[<-hMc,an h0]
    rw[eS]at hT1;have hB2:=hB0 h0
    (repeat(first|refine gk fun K hK=>?_|refine ao ?_));refine xm ?_;(repeat(first|refine gk fun K hK=>?_|refine ao ?_))
    refine fe ?_
    (repeat(first|refine gk fun K hK=>?_|refine ao ?_));refine fE ?_;(repeat(first|refine gk fun K hK=>?_|refine ao ?_))
    simp only[nx,inB];exact⟨cN-(c+1),_,by omega,(ay (sl':=[(1,zI cN),(5, .own 19),(6,zI (r:Nat)),(7,zI ((c+1:Nat):Int))]) (ow':=[(19,⟨113,1,Mc.map dZ⟩)]) aF aH),r,c+1,Mc,rfl,by omega,hMcR,hMcL,⟨hr.1,by omega⟩,hT1,hB2,rfl⟩
   ·have eS : Mx.step r c M = (r + 1, Mx.kj r c (Mx.cJ r c Mc)) := by
     unfold Mx.step;simp only[];rw[<-hMc,aj h0]
    rw[eS]at hT1;unfold Mx.kj at hT1;have hSre:=Mx.nu (c:=c) hrM;have hSR:=hSre.rc hMcR;have hSL:(Mx.cJ r c Mc).length=L:=by rw[hSre.len];exact hMcL
    have hpiv:Mx.at' (Mx.cJ r c Mc) r c≠0:=by
     unfold Mx.cJ;split
     ·rw[Mx.oF _ _ _ _ _ hrM,an rfl,Mx.kF];show-(Mx.at' Mc r c)≠0;omega
     ·exact h0
    clear hSre
    (repeat(first|refine gk fun K hK=>?_|refine ao ?_));refine xm ?_;(repeat(first|refine gk fun K hK=>?_|refine ao ?_))
    refine fD ?_
    (repeat refine ao ?_)
    refine gk fun K2 hK2=>?_;have TAIL2:∀s,Sh X0 Tryz.f78.ntmps s ⟨[(1,zI cN),(5, .own 19),(6,zI (r:Nat)),(7,zI (c:Nat))],[(19,⟨113,1,(Mx.cJ r c Mc).map dZ⟩)]⟩->K2 s:=by
     intro s hs;apply hK2;refine av hs ?_;obtain⟨S,hS⟩:∃S,S=Mx.cJ r c Mc:=⟨_,rfl⟩;rw[<-hS]at hT1 hSR hSL hAB hAI hpiv;rw[<-hS];clear hS hK2 hgr hxr SX gx gn h0 eS
     (repeat(first|refine gk fun K hK=>?_|refine ao ?_));refine mS ?_;(repeat(first|refine gk fun K hK=>?_|refine ao ?_))
     (refine av (ay (sl':=[(1,zI cN),(5, .own 19),(6,zI (r:Nat)),(7,zI (c:Nat)),(15,zI 0)]) (ow':=[(19,⟨113,1,S.map dZ⟩)]) aF aH) ?_)
     refine bh (fun k s=>∃j,j<=r/\k=r-j/\s=⟨[(1,zI cN),(5, .own 19),(6,zI (r:Nat)),(7,zI (c:Nat)),(15,zI (j:Nat))],[(19,⟨113,1,(Mx.ba r c 0 S j).map dZ⟩)]⟩) (m:=r) ⟨0,aO _,rfl,rfl⟩ fun k s hs=>?_;obtain⟨j,hjr,rfl,rfl⟩:=hs;have hLN:(Mx.ba r c 0 S j).length=L:=by rw[Mx.cY];exact hSL
     have hBN:=hAB j aa;have hRN:Mx.Rc n (Mx.ba r c 0 S j):=Mx.nr hSR aa j aa;by_cases hj:j<r
     ·have HNX : Mx.ba r c 0 S (j + 1) = (Mx.ba r c 0 S j).set j (Mx.eO (Mx.rw (Mx.ba r c 0 S j) r) c (Mx.rw (Mx.ba r c 0 S j) j)) := by
       have:=Mx.oC (r:=r) (c:=c) (s:=0) (k:=j) (M:=S) aa aa;rw[bw]at this;exact this
      have hpn:Mx.at' (Mx.ba r c 0 S j) r c≠0:=by
       unfold Mx.at';rw[Mx.gw r c 0 S j aa r,aj aa];exact hpiv
      obtain⟨A,hA⟩:∃A,A=Mx.ba r c 0 S j:=⟨_,rfl⟩;rw[<-hA]at HNX hpn hBN hRN hLN;rw[<-hA];clear hA hAB hT1;have hgj:=gJ (M:=A) (i:=j) aa;have hgr:=gJ (M:=A) (i:=r) aa;have hxj:=pP hRN (show j<A.length by omega) hcn;have hxr:=pP hRN (show r<A.length by omega) hcn;have DM:=zh (Mx.at' A j c) (Mx.at' A r c) (cB (hBN j c) aa) (cB (hBN r c) aa) hpn;have TK:=EW (c:=c) hRN (show j<A.length by omega) (show r<A.length by omega) hn hBN hEf;have hjj:(j:Int)=((j:Nat):Int):=rfl
      (repeat(first|refine gk fun K hK=>?_|refine ao ?_));refine po ?_;(repeat(first|refine gk fun K hK=>?_|refine ao ?_))
      refine fe ?_
      (repeat(first|refine gk fun K hK=>?_|refine ao ?_));(refine rz [16,17] ah Ki ?_);refine Qw ?_;(refine mr (k:=16) (z:=(.agg #[.bool false, .slice none 0 0])) (d:=(.nm 0)) rfl rfl rfl rfl rfl ah ai ai cX ai ai ?_);(refine mr (k:=17) (z:=(.agg #[.bool false, .slice none 0 0])) (d:=(.nm 0)) rfl rfl rfl rfl rfl ah ai ai cX ai ai ?_);refine jP ?_;refine jP ?_;refine rN ?_;refine lU ?_;(repeat(first|refine gk fun K hK=>?_|refine ao ?_))
      (refine av (ay (sl':=[(1,zI cN),(5, .own 19),(6,zI (r:Nat)),(7,zI (c:Nat)),(15,zI (j:Nat)),(16, .opt 16 0)]) (ow':=[(16,⟨62,2,[.nm (Mx.at' A j c/Mx.at' A r c)]⟩),(19,⟨113,1,A.map dZ⟩)]) aF aH) ?_)
      (repeat(first|refine gk fun K hK=>?_|refine ao ?_));refine Re ?_;(repeat(first|refine gk fun K hK=>?_|refine ao ?_));refine fE ?_;(repeat(first|refine gk fun K hK=>?_|refine ao ?_))
      simp only[nx,inB];exact⟨r-(j+1),_,by omega,(ay (sl':=[(1,zI cN),(5, .own 19),(6,zI (r:Nat)),(7,zI (c:Nat)),(15,zI ((j+1:Nat):Int))]) (ow':=[(19,⟨113,1,(A.map dZ).set j (dZ (Mx.eO (Mx.rw A r) c (Mx.rw A j)))⟩)]) aF aH),j+1,by omega,rfl,by rw[HNX,lu]⟩
     ·obtain rfl:j=r:=by omega
      (repeat(first|refine gk fun K hK=>?_|refine ao ?_));refine po ?_;(repeat(first|refine gk fun K hK=>?_|refine ao ?_))
      refine fD ?_
      (repeat(first|refine gk fun K hK=>?_|refine ao ?_));refine fE ?_;(repeat(first|refine gk fun K hK=>?_|refine ao ?_));refine fE ?_;(repeat(first|refine gk fun K hK=>?_|refine ao ?_))
      simp only[nx,inB];exact⟨cN-(c+1),_,by omega,(ay (sl':=[(1,zI cN),(5, .own 19),(6,zI ((j+1:Nat):Int)),(7,zI ((c+1:Nat):Int))]) (ow':=[(19,⟨113,1,(Mx.ba j c 0 S j).map dZ⟩)]) aF aH),j+1,c+1,_,rfl,by omega,hRN,hLN,⟨by omega,by omega⟩,hT1,hAI,rfl⟩
    clear hK2;by_cases hneg:Mx.at' Mc r c<0
    ·have hgs:=gn.2 hneg;have eG:Mx.cJ r c Mc=Mc.set r (Mx.neg (Mx.rw Mc r)):=by unfold Mx.cJ;rw[an hneg]
     rw[eG,lu]at TAIL2;have hrl:(Mx.rw Mc r).length=n:=hMcR.rw hrM;have hin:∀x∈Mx.rw Mc r,x.natAbs<=2^E:=fun x hx=>by
      obtain⟨j,hj,e⟩:=lX hx;have:=hMcB r j;unfold Mx.at' at this;rw[aq,aV hj,e]at this;exact this
     have hf1:Hf 1:=by unfold Hf;rw[show(1:Int).natAbs=1 from rfl,A9];decide
     have hf0:Hf 0:=by unfold Hf;rw[show(0:Int).natAbs=0 from rfl,(oz 0).2 rfl];decide
     have TK:=LV (List.replicate (Mx.rw Mc r).length 0) (Mx.rw Mc r) 1 aU (by rw[pq];omega) (fun x hx=>by rw[EA hx];exact hf0) (fun y hy=>⟨cB (hin y hy) aa,by rw[jy];exact cB (hin y hy) aa⟩) hf1;have eN:Mx.en (-1) (List.replicate (Mx.rw Mc r).length 0) (Mx.rw Mc r)=Mx.neg (Mx.rw Mc r):=by
      refine Mx.tQ (by rw[Mx.kg _ _ _ aU,pq,Mx.oV]) fun j=>?_;rw[Mx.mn _ _ _ _ aU,Mx.kF,aq,lf];split<;>simp<;>omega
     rw[eN]at TK;unfold dZ at TK;rw[EK]at TK;have OF:=yM 1 aa;have hrr':(r:Int)=((r:Nat):Int):=rfl
     (repeat(first|refine gk fun K hK=>?_|refine ao ?_));refine Rd ?_;(repeat(first|refine gk fun K hK=>?_|refine ao ?_))
     refine fe ?_
     (repeat(first|refine gk fun K hK=>?_|refine ao ?_));((first|(apply aI 15;(focus kernel_rfl);(decide+kernel))|(apply aI 14;(focus kernel_rfl);(decide+kernel))|(apply aI 13;(focus kernel_rfl);(decide+kernel))|(apply aI 12;(focus kernel_rfl);(decide+kernel))|(apply aI 11;(focus kernel_rfl);(decide+kernel))|(apply aI 10;(focus kernel_rfl);(decide+kernel))|(apply aI 9;(focus kernel_rfl);(decide+kernel))|(apply aI 8;(focus kernel_rfl);(decide+kernel)));simp only[eu,dw,eU,du]);refine ib ?_;refine ib ?_;refine jK ?_;refine J8 ?_;(first|refine fo rfl rfl rfl ai zb12 ai ai ?_|((try refine bf ?_);refine aL1 rfl rfl rfl zb12 ?_));refine jK ?_;(first|refine fo rfl rfl rfl ai Er ai ai ?_|((try refine bf ?_);refine aL1 rfl rfl rfl Er ?_));refine J9 ?_;refine zs29 ?_;((try refine bf ?_);(refine pj (i:=r) rfl rfl rfl ck ck aX ai qz ai cX ai ah qA ?_));refine qy ?_;(repeat(first|refine gk fun K hK=>?_|refine ao ?_))
     exact(ay (sl':=[(1,zI cN),(5, .own 19),(6,zI (r:Nat)),(7,zI (c:Nat))]) (ow':=[(19,⟨113,1,(Mc.map dZ).set r (dZ (Mx.neg (Mx.rw Mc r)))⟩)]) aF aH)
    ·have hgs:¬sgn (Mx.at' Mc r c)<0:=fun h=>hneg (gn.1 h);have eG:Mx.cJ r c Mc=Mc:=by unfold Mx.cJ;rw[aj hneg]
     rw[eG]at TAIL2
     (repeat(first|refine gk fun K hK=>?_|refine ao ?_));refine Rd ?_;(repeat(first|refine gk fun K hK=>?_|refine ao ?_))
     refine fD ?_
     (repeat(first|refine gk fun K hK=>?_|refine ao ?_))
     exact(ay (sl':=[(1,zI cN),(5, .own 19),(6,zI (r:Nat)),(7,zI (c:Nat))]) (ow':=[(19,⟨113,1,Mc.map dZ⟩)]) aF aH)
  clear hK;have hred:0<cN-c:=by omega
  (refine av (ay (sl':=[(1,zI cN),(5, .own 19),(6,zI (r:Nat)),(7,zI (c:Nat))]) (ow':=[(19,⟨113,1,M.map dZ⟩)]) aF aH) ?_)
  refine bh (fun k s=>∃N,k=Mx.kW r c N/\Mx.Rc n N/\N.length=L/\J r c N/\Mx.cH r c N=Mc/\s=⟨[(1,zI cN),(5, .own 19),(6,zI (r:Nat)),(7,zI (c:Nat))],[(19,⟨113,1,N.map dZ⟩)]⟩) (m:=Mx.kW r c M) ⟨M,rfl,hM,hML,hJ,hMc.symm,rfl⟩ fun k s hs=>?_;clear hJ hb hT hMc hML hM hAB hAI;obtain⟨N,rfl,hN,hNL,hJ,hNc,rfl⟩:=hs;have hNB:∀i,(Mx.at' N i c).natAbs<=2^E:=fun i=>D.jb hrr hr.2 hcc hJ i c
  (repeat(first|refine gk fun K hK=>?_|refine ao ?_));refine JN ?_;(repeat(first|refine gk fun K hK=>?_|refine ao ?_));refine xp ?_;(repeat(first|refine gk fun K hK=>?_|refine ao ?_))
  (refine av (ay (sl':=[(1,zI cN),(5, .own 19),(6,zI (r:Nat)),(7,zI (c:Nat)),(8,zI (-1)),(9, .sc (.bool false)),(10,zI (r:Nat))]) (ow':=[(19,⟨113,1,N.map dZ⟩)]) aF aH) ?_)
  refine bh (fun k s=>∃i,r<=i/\i<=L/\k=L-i/\s=⟨[(1,zI cN),(5, .own 19),(6,zI (r:Nat)),(7,zI (c:Nat)),(8,atD (Mx.scan c r N (i-r)).1),(9, .sc (.bool (decide (2<=(Mx.scan c r N (i-r)).2)))),(10,zI (i:Nat))],[(19,⟨113,1,N.map dZ⟩)]⟩) (m:=L-r) ⟨r,af _,by omega,rfl,by rw[eR];rfl⟩ fun k s hs=>?_;obtain⟨i,hri,hiL,rfl,rfl⟩:=hs;by_cases hi:i<L
  ·have hgi:=gJ (M:=N) (i:=i) aa;have hxi:=pP hN (show i<N.length by omega) hcn;have SX:=tM (Mx.at' N i c) (cB (hNB i) aa);have gx:=Fh (Mx.at' N i c);by_cases h0:Mx.at' N i c=0
   ·have HZ:=Mx.Mj hri h0;rw[<-HZ];obtain⟨d8,h8⟩:∃d,d=atD (Mx.scan c r N (i+1-r)).1:=⟨_,rfl⟩;rw[<-h8]
    (repeat(first|refine gk fun K hK=>?_|refine ao ?_));refine iR ?_;(repeat(first|refine gk fun K hK=>?_|refine ao ?_))
    refine fe ?_
    (repeat(first|refine gk fun K hK=>?_|refine ao ?_));refine xm ?_;(repeat(first|refine gk fun K hK=>?_|refine ao ?_))
    refine fe ?_
    (repeat(first|refine gk fun K hK=>?_|refine ao ?_));refine fE ?_;(repeat(first|refine gk fun K hK=>?_|refine ao ?_))
    simp only[nx,inB];exact⟨L-(i+1),_,by omega,(ay (sl':=[(1,zI cN),(5, .own 19),(6,zI (r:Nat)),(7,zI (c:Nat)),(8,d8),(9, .sc (.bool (decide (2<=(Mx.scan c r N (i+1-r)).2)))),(10,zI ((i+1:Nat):Int))]) (ow':=[(19,⟨113,1,N.map dZ⟩)]) aF aH),i+1,by omega,by omega,rfl,by rw[h8]⟩
   ·cases hp:(Mx.scan c r N (i-r)).1 with
    |none=>
     have h2:=((Mx.fT c r N (i-r)).no hp).1;have HS:=Mx.Ml hri h0 hp;rw[h2]at HS;rw[show atD none=zI (-1)from rfl,h2,show decide (2<=0)=false from rfl]
     (repeat(first|refine gk fun K hK=>?_|refine ao ?_));refine iR ?_;(repeat(first|refine gk fun K hK=>?_|refine ao ?_))
     refine fe ?_
     (repeat(first|refine gk fun K hK=>?_|refine ao ?_));refine xm ?_;(repeat(first|refine gk fun K hK=>?_|refine ao ?_))
     refine fD ?_
     (repeat(first|refine gk fun K hK=>?_|refine ao ?_));refine JH ?_;(repeat(first|refine gk fun K hK=>?_|refine ao ?_));refine RZ ?_;refine ib ?_;refine zs84 ?_;refine ib ?_;refine Di ?_;refine RX ?_;refine Di ?_;refine RX ?_;(first|(first|(refine aHs rfl rfl rfl rfl rfl ?_ ?_;(focus(apply bz;(conv=>lhs;whnf);(first|done|exact rfl|(apply br;(first|(apply aD;omega)|(apply aG;omega)|assumption|(simp;done)))))))|refine vF rfl rfl rfl rfl rfl cI ai zb28 ai ai ?_)|((try refine bf ?_);(first|(refine aLs rfl rfl rfl rfl ?_ ?_;(focus(apply bz;(conv=>lhs;whnf);(first|done|exact rfl|(apply br;(first|(apply aD;omega)|(apply aG;omega)|assumption|(simp;done)))))))|refine aLw rfl rfl rfl rfl cI zb28 ?_)));refine zs88 ?_;refine zs89 ?_;refine qy ?_;(repeat(first|refine gk fun K hK=>?_|refine ao ?_))
     refine fe ?_
     (repeat(first|refine gk fun K hK=>?_|refine ao ?_));refine xp ?_;(repeat(first|refine gk fun K hK=>?_|refine ao ?_));refine fE ?_;(repeat(first|refine gk fun K hK=>?_|refine ao ?_))
     simp only[nx,inB];exact⟨L-(i+1),_,by omega,(ay (sl':=[(1,zI cN),(5, .own 19),(6,zI (r:Nat)),(7,zI (c:Nat)),(8,zI (i:Nat)),(9, .sc (.bool false)),(10,zI ((i+1:Nat):Int))]) (ow':=[(19,⟨113,1,N.map dZ⟩)]) aF aH),i+1,by omega,by omega,rfl,by rw[HS];rfl⟩
    |some t=>
     have HT:=(Mx.fT c r N (i-r)).yes t hp;have htL:t<L:=by have:=HT.2.1;omega
     have hq1:1<=(Mx.scan c r N (i-r)).2:=HT.2.2.2.2.1;clear HT;have HLT:=Mx.Ih hri h0 hp;have HGE:=Mx.Ii hri h0 hp;obtain⟨q,hq⟩:∃q,q=(Mx.scan c r N (i-r)).2:=⟨_,rfl⟩;rw[<-hq]at HLT HGE hq1;rw[<-hq,show atD (some t)=zI (t:Nat)from rfl];clear hq hp;have hgt:=gJ (M:=N) (i:=t) aa;have hxt:=pP hN (show t<N.length by omega) hcn;have S1:=Md (Mx.at' N i c) (cB (hNB i) aa);have S2:=Md (Mx.at' N t c) (cB (hNB t) aa);have CM:=Li ((Mx.at' N i c).natAbs:Int) ((Mx.at' N t c).natAbs:Int) (uc (by rw[cD];exact hNB i) aa) (uc (by rw[cD];exact hNB t) aa);have gs:=xI (((Mx.at' N i c).natAbs:Int)-((Mx.at' N t c).natAbs:Int));have hii:(i:Int)=((i:Nat):Int):=rfl;by_cases hlt:(Mx.at' N i c).natAbs<(Mx.at' N t c).natAbs
     ·have HS:=HLT hlt;clear HLT HGE;have hg:=gs.2 aa;by_cases h2q:2<=q;all_goals
       first
       |rw[show decide (2<=q)=true from aD h2q]
       |rw[show decide (2<=q)=false from aG h2q]
       (repeat(first|refine gk fun K hK=>?_|refine ao ?_));refine iR ?_;(repeat(first|refine gk fun K hK=>?_|refine ao ?_))
       refine fe ?_
       (repeat(first|refine gk fun K hK=>?_|refine ao ?_));refine xm ?_;(repeat(first|refine gk fun K hK=>?_|refine ao ?_))
       refine fD ?_
       (repeat(first|refine gk fun K hK=>?_|refine ao ?_));refine JH ?_;(repeat(first|refine gk fun K hK=>?_|refine ao ?_));refine Rb ?_;(repeat(first|refine gk fun K hK=>?_|refine ao ?_))
       refine fe ?_
       (repeat(first|refine gk fun K hK=>?_|refine ao ?_));refine xp ?_;(repeat(first|refine gk fun K hK=>?_|refine ao ?_));refine fE ?_;(repeat(first|refine gk fun K hK=>?_|refine ao ?_))
       simp only[nx,inB];exact⟨L-(i+1),_,by omega,(ay (sl':=[(1,zI cN),(5, .own 19),(6,zI (r:Nat)),(7,zI (c:Nat)),(8,zI (i:Nat)),(9, .sc (.bool true)),(10,zI ((i+1:Nat):Int))]) (ow':=[(19,⟨113,1,N.map dZ⟩)]) aF aH),i+1,by omega,by omega,rfl,by rw[HS,show decide (2<=q+1)=true from aD aa];rfl⟩
     ·have HS:=HGE hlt;clear HLT HGE;have hg:¬sgn (((Mx.at' N i c).natAbs:Int)-((Mx.at' N t c).natAbs:Int))<0:=fun h=>hlt (by have:=gs.1 h;omega);by_cases h2q:2<=q;all_goals
       first
       |rw[show decide (2<=q)=true from aD h2q]
       |rw[show decide (2<=q)=false from aG h2q]
       (repeat(first|refine gk fun K hK=>?_|refine ao ?_));refine iR ?_;(repeat(first|refine gk fun K hK=>?_|refine ao ?_))
       refine fe ?_
       (repeat(first|refine gk fun K hK=>?_|refine ao ?_));refine xm ?_;(repeat(first|refine gk fun K hK=>?_|refine ao ?_))
       refine fD ?_
       (repeat(first|refine gk fun K hK=>?_|refine ao ?_));refine JH ?_;(repeat(first|refine gk fun K hK=>?_|refine ao ?_));refine Rb ?_;(repeat(first|refine gk fun K hK=>?_|refine ao ?_))
       refine fD ?_
       (repeat(first|refine gk fun K hK=>?_|refine ao ?_));refine fE ?_;(repeat(first|refine gk fun K hK=>?_|refine ao ?_))
       simp only[nx,inB];exact⟨L-(i+1),_,by omega,(ay (sl':=[(1,zI cN),(5, .own 19),(6,zI (r:Nat)),(7,zI (c:Nat)),(8,zI (t:Nat)),(9, .sc (.bool true)),(10,zI ((i+1:Nat):Int))]) (ow':=[(19,⟨113,1,N.map dZ⟩)]) aF aH),i+1,by omega,by omega,rfl,by rw[HS,show decide (2<=q+1)=true from aD aa];rfl⟩
  ·obtain rfl:i=L:=by omega
   have hpk:Mx.pick r c N=Mx.scan c r N (i-r):=by unfold Mx.pick;rw[hNL]
   cases hp:(Mx.scan c r N (i-r)).1 with
   |none=>
    have eN:N=Mc:=by rw[<-hNc,Mx.wU (by rw[hpk];exact hp)]
    rw[<-eN]at TAIL;rw[show atD none=zI (-1)from rfl]
    (repeat(first|refine gk fun K hK=>?_|refine ao ?_));refine iR ?_;(repeat(first|refine gk fun K hK=>?_|refine ao ?_))
    refine fD ?_
    (repeat(first|refine gk fun K hK=>?_|refine ao ?_));refine jn ?_;(repeat(first|refine gk fun K hK=>?_|refine ao ?_))
    refine fe ?_
    (refine av (ay (sl':=[(1,zI cN),(5, .own 19),(6,zI (r:Nat)),(7,zI (c:Nat))]) (ow':=[(19,⟨113,1,N.map dZ⟩)]) aF aH) ?_)
    (repeat(first|refine gk fun K hK=>?_|refine ao ?_))
    all_goals((simp only[nx,inB,ite_true,ite_false,↓reduceIte,Nat.reduceEqDiff,reduceCtorEq]);apply_assumption-exfalso)
   |some t=>
    have HT:=(Mx.fT c r N (i-r)).yes t hp;have htL:t<i:=by have:=HT.2.1;omega
    have htz:=HT.2.2.1;have hq1:1<=(Mx.scan c r N (i-r)).2:=HT.2.2.2.2.1;clear HT;have hp':(Mx.pick r c N).1=some t:=by rw[hpk];exact hp
    have ONE:=Mx.zm (r:=r) (c:=c) (M:=N) hp';have STP:=Mx.wT hN hp';have MEA:=Mx.lZ hN hp';have JST:=D.js hrr hr.2 hcc hN hJ hp';rw[hpk]at ONE STP MEA JST;obtain⟨q,hq⟩:∃q,q=(Mx.scan c r N (i-r)).2:=⟨_,rfl⟩;rw[<-hq]at hq1 ONE STP MEA JST;rw[<-hq,show atD (some t)=zI (t:Nat)from rfl];clear hq hp hp' hpk;have hgr:=gJ (M:=N) (i:=r) aa;have hgt:=gJ (M:=N) (i:=t) aa;have hsm:=Tw N r t;have hrr':(r:Int)=((r:Nat):Int):=rfl;have htt':(t:Int)=((t:Nat):Int):=rfl
    (repeat(first|refine gk fun K hK=>?_|refine ao ?_));refine iR ?_;(repeat(first|refine gk fun K hK=>?_|refine ao ?_))
    refine fD ?_
    (repeat(first|refine gk fun K hK=>?_|refine ao ?_));refine jn ?_;(repeat(first|refine gk fun K hK=>?_|refine ao ?_))
    refine fD ?_
    (repeat(first|refine gk fun K hK=>?_|refine ao ?_));refine rM ?_;refine fZ ?_;refine fZ ?_;refine fZ ?_;refine fZ ?_;refine fZ ?_;refine mR ?_;refine fZ ?_;refine mR ?_;refine Dw ?_;(refine xZ (i:=r) rfl rfl rfl ck ck aX ai qz ai cX ai ah qA ?_);refine Dw ?_;(refine xZ (i:=t) rfl rfl rfl ck ck aX ai qz ai cX ai ah qA ?_);refine lU ?_;(repeat(first|refine gk fun K hK=>?_|refine ao ?_))
    (refine av (ay (sl':=[(1,zI cN),(5, .own 19),(6,zI (r:Nat)),(7,zI (c:Nat)),(9, .sc (.bool (decide (2<=q))))]) (ow':=[(19,⟨113,1,((N.map dZ).set r (dZ (Mx.rw N t))).set t (dZ (Mx.rw N r))⟩)]) aF aH) ?_)
    rw[hsm];by_cases hq2:q=1
    ·have eN:Mx.swp N r t=Mc:=by rw[<-hNc,ONE hq2]
     rw[<-eN]at TAIL
     (repeat(first|refine gk fun K hK=>?_|refine ao ?_));refine xj ?_;(repeat(first|refine gk fun K hK=>?_|refine ao ?_))
     refine fe ?_
     (refine av (ay (sl':=[(1,zI cN),(5, .own 19),(6,zI (r:Nat)),(7,zI (c:Nat))]) (ow':=[(19,⟨113,1,(Mx.swp N r t).map dZ⟩)]) aF aH) ?_)
     (repeat(first|refine gk fun K hK=>?_|refine ao ?_))
     all_goals((simp only[nx,inB,ite_true,ite_false,↓reduceIte,Nat.reduceEqDiff,reduceCtorEq]);apply_assumption-exfalso)
    ·have HE:=(STP hq2).symm.trans hNc;obtain⟨hrN,htN,hrt,hmeas⟩:=MEA hq2;obtain⟨hJB,hJ2⟩:=JST hq2;clear STP MEA JST ONE hsm hgr hgt;have hSR:=Mx.mH hN hrN htN;have hSL:(Mx.swp N r t).length=i:=by rw[Mx.dn];exact hNL
     have hpiv:Mx.at' (Mx.swp N r t) r c≠0:=by
      rw[Mx.dE hrN htN];split
      ·rename_i e;rw[e];exact htz
      ·rw[an rfl];exact htz
     unfold Mx.elim at HE hmeas hJ2;rw[hNL]at hJB;rw[hSL]at HE hmeas hJ2;obtain⟨S,hS⟩:∃S,S=Mx.swp N r t:=⟨_,rfl⟩;rw[<-hS]at HE hmeas hJ2 hSR hSL hpiv hJB;rw[<-hS];clear hS TAIL
     (repeat(first|refine gk fun K hK=>?_|refine ao ?_));refine xj ?_;(repeat(first|refine gk fun K hK=>?_|refine ao ?_))
     refine fD ?_
     (repeat(first|refine gk fun K hK=>?_|refine ao ?_));refine fE ?_;(repeat(first|refine gk fun K hK=>?_|refine ao ?_))
     (refine av (ay (sl':=[(1,zI cN),(5, .own 19),(6,zI (r:Nat)),(7,zI (c:Nat)),(11,zI ((r+1:Nat):Int))]) (ow':=[(19,⟨113,1,S.map dZ⟩)]) aF aH) ?_)
     refine bh (fun k s=>∃j,r+1<=j/\j<=i/\k=i-j/\s=⟨[(1,zI cN),(5, .own 19),(6,zI (r:Nat)),(7,zI (c:Nat)),(11,zI (j:Nat))],[(19,⟨113,1,(Mx.ba r c (r+1) S (j-(r+1))).map dZ⟩)]⟩) (m:=i-(r+1)) ⟨r+1,af _,by omega,rfl,by rw[eR];rfl⟩ fun k s hs=>?_;obtain⟨j,hrj,hji,rfl,rfl⟩:=hs;by_cases hj:j<i
     ·have HNX : Mx.ba r c (r + 1) S (j + 1 - (r + 1)) = (Mx.ba r c (r + 1) S (j - (r + 1))).set j (Mx.eO (Mx.rw (Mx.ba r c (r + 1) S (j - (r + 1))) r) c (Mx.rw (Mx.ba r c (r + 1) S (j - (r + 1))) j)) := by
       rw[show j+1-(r+1)=(j-(r+1))+1 by omega,Mx.oC aa (by rw[hSL];omega),show r+1+(j-(r+1))=j by omega]
      have hpn:Mx.at' (Mx.ba r c (r+1) S (j-(r+1))) r c≠0:=by
       unfold Mx.at';rw[Mx.gw r c (r+1) S (j-(r+1)) (by rw[hSL];omega) r,aj aa];exact hpiv
      have hBN:=hJB (j-(r+1)) aa;have hRN:Mx.Rc n (Mx.ba r c (r+1) S (j-(r+1))):=Mx.nr hSR aa _ aa;have hLN:(Mx.ba r c (r+1) S (j-(r+1))).length=i:=by rw[Mx.cY];exact hSL
      obtain⟨A,hA⟩:∃A,A=Mx.ba r c (r+1) S (j-(r+1)):=⟨_,rfl⟩;rw[<-hA]at HNX hpn hBN hRN hLN;rw[<-hA];clear hA hJB hJ2 hmeas HE;have hgj:=gJ (M:=A) (i:=j) aa;have hgr:=gJ (M:=A) (i:=r) aa;have hxj:=pP hRN (show j<A.length by omega) hcn;have hxr:=pP hRN (show r<A.length by omega) hcn;have DM:=zh (Mx.at' A j c) (Mx.at' A r c) (cB (hBN j c) aa) (cB (hBN r c) aa) hpn;have TK:=EW (c:=c) hRN (show j<A.length by omega) (show r<A.length by omega) hn hBN hEf;have hjj:(j:Int)=((j:Nat):Int):=rfl
      (repeat(first|refine gk fun K hK=>?_|refine ao ?_));refine iR ?_;(repeat(first|refine gk fun K hK=>?_|refine ao ?_))
      refine fe ?_
      (repeat(first|refine gk fun K hK=>?_|refine ao ?_));(refine rz [12,13] ah Ki ?_);refine Qw ?_;(refine mr (k:=12) (z:=(.agg #[.bool false, .slice none 0 0])) (d:=(.nm 0)) rfl rfl rfl rfl rfl ah ai ai cX ai ai ?_);(refine mr (k:=13) (z:=(.agg #[.bool false, .slice none 0 0])) (d:=(.nm 0)) rfl rfl rfl rfl rfl ah ai ai cX ai ai ?_);refine jP ?_;refine jP ?_;refine rN ?_;refine lU ?_;(repeat(first|refine gk fun K hK=>?_|refine ao ?_))
      (refine av (ay (sl':=[(1,zI cN),(5, .own 19),(6,zI (r:Nat)),(7,zI (c:Nat)),(11,zI (j:Nat)),(12, .opt 12 0)]) (ow':=[(12,⟨62,2,[.nm (Mx.at' A j c/Mx.at' A r c)]⟩),(19,⟨113,1,A.map dZ⟩)]) aF aH) ?_)
      (repeat(first|refine gk fun K hK=>?_|refine ao ?_));refine Re ?_;(repeat(first|refine gk fun K hK=>?_|refine ao ?_));refine fE ?_;(repeat(first|refine gk fun K hK=>?_|refine ao ?_))
      simp only[nx,inB];exact⟨i-(j+1),_,by omega,(ay (sl':=[(1,zI cN),(5, .own 19),(6,zI (r:Nat)),(7,zI (c:Nat)),(11,zI ((j+1:Nat):Int))]) (ow':=[(19,⟨113,1,(A.map dZ).set j (dZ (Mx.eO (Mx.rw A r) c (Mx.rw A j)))⟩)]) aF aH),j+1,by omega,by omega,rfl,by rw[HNX,lu]⟩
     ·obtain rfl:j=i:=by omega
      have hLN:(Mx.ba r c (r+1) S (j-(r+1))).length=j:=by rw[Mx.cY];exact hSL
      (repeat(first|refine gk fun K hK=>?_|refine ao ?_));refine iR ?_;(repeat(first|refine gk fun K hK=>?_|refine ao ?_))
      refine fD ?_
      (repeat(first|refine gk fun K hK=>?_|refine ao ?_))
      simp only[nx,inB];exact⟨_,_,hmeas,(ay (sl':=[(1,zI cN),(5, .own 19),(6,zI (r:Nat)),(7,zI (c:Nat))]) (ow':=[(19,⟨113,1,(Mx.ba r c (r+1) S (j-(r+1))).map dZ⟩)]) aF aH),_,rfl,Mx.nr hSR aa (j-(r+1)) aa,by rw[Mx.cY];exact hSL,hJ2,HE,rfl⟩
 ·have eT : T.2 = M := by
   by_cases h1:c<cN
   ·rw[Mx.qQ aa]at hT;rw[<-hT]
   ·rw[show cN-c=0 by omega]at hT;rw[<-hT];rfl
  by_cases h1:c<cN
  ·have hd1:decide ((c:Int)<(cN:Int))=true:=aD aa
   (repeat(first|refine gk fun K hK=>?_|refine ao ?_));refine JI ?_;(repeat(first|refine gk fun K hK=>?_|refine ao ?_))
   refine fD ?_
   (repeat(first|refine gk fun K hK=>?_|refine ao ?_))
   refine av (az (k:=19) aX bq bp) ?_;refine xp ?_
   (repeat(first|refine gk fun K hK=>?_|refine ao ?_))
   rw[eT];exact⟨_,Sh.refl, .one (.tmp 4) _ rfl (.tmp 4 rfl)⟩
  ·have hd1:decide ((c:Int)<(cN:Int))=false:=aG aa
   (repeat(first|refine gk fun K hK=>?_|refine ao ?_));refine JI ?_;(repeat(first|refine gk fun K hK=>?_|refine ao ?_))
   refine fD ?_
   (repeat(first|refine gk fun K hK=>?_|refine ao ?_))
   refine av (az (k:=19) aX bq bp) ?_;refine xp ?_
   (repeat(first|refine gk fun K hK=>?_|refine ao ?_))
   rw[eT];exact⟨_,Sh.refl, .one (.tmp 4) _ rfl (.tmp 4 rfl)⟩
theorem N3(m:Mx.Mat)(n cN e p:Nat)(hR:Mx.Rc n m)(hc:cN<=n)(hn:n<=1000)(hm:m.length<=1000)(he:6<=e)(hp:m.length<=p\/cN<=p)(hf:2*(e*11^p)<=3000000000)(hb:Mx.Bd (2^e) m):
 Fn Tryz.prog 78 [dW m,zI cN] (dW (Mx.red cN 0 (0,m)).2):=C5 m n cN _ (Mx.Wd he hp) hR hc hn hm hf zb79
theorem wO(m:Mx.Mat)(n cN e p:Nat)(hR:Mx.Rc n m)(hc:cN<=n)(hn:n<=1000)(hm:m.length<=1000)(he:6<=e)(hp:m.length<=p\/cN<=p)(hf:4*(e*3^p)<=3000000000)(hb:Mx.Bd (2^(e-3)) m):
 Fn Tryz.prog 78 [dW m,zI cN] (dW (Mx.red cN 0 (0,m)).2):=C5 m n cN _ (Mx.disc3 he hp) hR hc hn hm aa (Mx.Lm hb)
end DW
end
end Go.Proofs.YtcgjmdpcplhanaaGreat
