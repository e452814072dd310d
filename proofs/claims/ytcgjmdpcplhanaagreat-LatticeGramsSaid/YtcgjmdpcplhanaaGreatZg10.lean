/- Lemmas for the law: E14 -/
import Derived.Test.YtcgjmdpcplhanaaGreatZg9
namespace Go.Proofs.YtcgjmdpcplhanaaGreat
section
theorem ct{p q:Prop}(h:q)(f:Wq q->p:=by(intro hW;((first|refine aN1 rfl rfl rfl zb1 ?_|refine kT rfl rfl rfl zb1 ?_));exact hW.out)):p:=f ⟨h⟩
theorem Ag{p q:Prop}(h:q)(f:Wq q->p:=by(intro hW;((refine gar ?_;refine zs4 ?_;refine zs4 ?_;refine lO ?_;refine zs4 ?_;refine zs8 ?_;refine zs8 ?_;refine jH ?_;refine vG ?_;refine gB ?_;refine af ?_));exact hW.out)):p:=f ⟨h⟩
theorem vu{p q:Prop}(h:q)(f:Wq q->p:=by(intro hW;((first|refine aN1 rfl rfl rfl ou ?_|refine kT rfl rfl rfl ou ?_));exact hW.out)):p:=f ⟨h⟩
theorem kZ{p q:Prop}(h:q)(f:Wq q->p:=by(intro hW;((first|(first|(refine aHs rfl rfl rfl rfl rfl ?_ ?_;(focus(apply aJ;(conv=>lhs;whnf);(first|done|exact rfl|(apply aG;(first|(apply decide_eq_true;omega)|(apply decide_eq_false;omega)|assumption|(simp;done)))))))|refine kV rfl rfl rfl rfl rfl bp ae zb4 ae ae ?_)|((try refine aB ?_);(first|(refine aLs rfl rfl rfl rfl ?_ ?_;(focus(apply aJ;(conv=>lhs;whnf);(first|done|exact rfl|(apply aG;(first|(apply decide_eq_true;omega)|(apply decide_eq_false;omega)|assumption|(simp;done)))))))|refine aLw rfl rfl rfl rfl bp zb4 ?_))));exact hW.out)):p:=f ⟨h⟩
theorem lf{p q:Prop}(h:q)(f:Wq q->p:=by(intro hW;((first|refine aN1 rfl rfl rfl zb39 ?_|refine kT rfl rfl rfl zb39 ?_));exact hW.out)):p:=f ⟨h⟩
theorem dz{p q:Prop}(h:q)(f:Wq q->p:=by(intro hW;((first|refine aN1 rfl rfl rfl zb4 ?_|refine J5 rfl rfl rfl rfl bz bz aZ aa aa (by first|omega|(simp;omega)) (by first|(apply dv;assumption)|exact rfl) ?_|refine kT rfl rfl rfl zb4 ?_));exact hW.out)):p:=f ⟨h⟩
theorem AA{p q:Prop}(h:q)(f:Wq q->p:=by(intro hW;((first|refine aN1 rfl rfl rfl vR ?_|refine kT rfl rfl rfl vR ?_));exact hW.out)):p:=f ⟨h⟩
theorem pq{p q:Prop}(h:q)(f:Wq q->p:=by(intro hW;((refine gar ?_;refine zs4 ?_;refine zs4 ?_;refine dB ?_;refine aS ?_;refine zs4 ?_;refine dB ?_;refine aS ?_;refine cO ?_;refine td ?_;refine af ?_));exact hW.out)):p:=f ⟨h⟩
theorem Af{p q:Prop}(h:q)(f:Wq q->p:=by(intro hW;((refine gar ?_;refine zs4 ?_;refine zs4 ?_;refine zs8 ?_;refine jG ?_;refine gw ?_;refine zs6 ?_;refine af ?_));exact hW.out)):p:=f ⟨h⟩
theorem zs109{p q:Prop}(h:q)(f:Wq q->p:=by(intro hW;(((try refine aB ?_);(refine kg (i:=j) rfl rfl rfl bz bz aZ ae lR ae cE ae aa lS ?_)));exact hW.out)):p:=f ⟨h⟩
theorem AO{p:Prop}(h:p:=by(apply zD;(exact rfl);(focus((apply au;(conv=>lhs;whnf);(first|done|exact rfl))));(focus((apply au;(conv=>lhs;whnf);(first|done|exact rfl))));(focus((apply au;(conv=>lhs;whnf);(first|done|exact rfl))));(exact rfl);(exact rfl);(exact rfl);(assumption);(exact rfl))):p:=h
theorem Az{p q:Prop}(h:q)(f:Wq q->p:=by(intro hW;((first|refine cC rfl rfl rfl ae AO ae ae ?_|((try refine aB ?_);refine aL1 rfl rfl rfl AO ?_)));exact hW.out)):p:=f ⟨h⟩
theorem GN{p q:Prop}(h:q)(f:Wq q->p:=by(intro hW;((refine zs92 ?_;refine aR ?_;refine aR ?_;refine aR ?_;refine aR ?_;refine dn ?_;refine bq ?_;refine aR ?_;refine aR ?_;refine dn ?_;refine bq ?_;refine bq ?_;refine Az ?_;refine dn ?_;refine zs109 ?_;refine cP ?_));exact hW.out)):p:=f ⟨h⟩
theorem zb11{p:Prop}(h:p:=by(apply(K6 (zv:=(.agg #[.bool false,.slice none 0 0])) (d0:=(.nm 0)) (wd:=2));(exact rfl);(focus((apply au;(conv=>lhs;whnf);(first|done|exact rfl))));(focus((apply au;(conv=>lhs;whnf);(first|done|exact rfl))));(kernel_rfl);(kernel_rfl);(exact rfl);(exact rfl);(exact rfl);(exact rfl);(exact rfl);(omega);(focus(first|exact Int.toNat_natCast _|exact rfl)))):p:=h
theorem zb25{p:Prop}(h:p:=by(apply jo;(exact rfl);(focus((apply au;(conv=>lhs;whnf);(first|done|exact rfl))));(focus((apply au;(conv=>lhs;whnf);(first|done|exact rfl))));(exact rfl);(exact rfl);(focus((first|exact fail)));(exact rfl))):p:=h
theorem Hk{p q:Prop}(h:q)(f:Wq q->p:=by(intro hW;((first|(apply ao 21;(focus kernel_rfl);(decide+kernel))|(apply ao 20;(focus kernel_rfl);(decide+kernel))|(apply ao 19;(focus kernel_rfl);(decide+kernel))|(apply ao 18;(focus kernel_rfl);(decide+kernel))|(apply ao 17;(focus kernel_rfl);(decide+kernel))|(apply ao 16;(focus kernel_rfl);(decide+kernel))|(apply ao 15;(focus kernel_rfl);(decide+kernel))|(apply ao 14;(focus kernel_rfl);(decide+kernel)));simp only[List.take_succ_cons,List.take_zero,List.drop_succ_cons,List.drop_zero]);exact hW.out)):p:=f ⟨h⟩
theorem fY{p q:Prop}(h:q)(f:Wq q->p:=by(intro hW;((first|(first|(refine aHs rfl rfl rfl rfl rfl ?_ ?_;(focus(apply aJ;(conv=>lhs;whnf);(first|done|exact rfl|(apply aG;(first|(apply decide_eq_true;omega)|(apply decide_eq_false;omega)|assumption|(simp;done)))))))|refine kV rfl rfl rfl rfl rfl bp ae mU ae ae ?_)|((try refine aB ?_);(first|(refine aLs rfl rfl rfl rfl ?_ ?_;(focus(apply aJ;(conv=>lhs;whnf);(first|done|exact rfl|(apply aG;(first|(apply decide_eq_true;omega)|(apply decide_eq_false;omega)|assumption|(simp;done)))))))|refine aLw rfl rfl rfl rfl bp mU ?_))));exact hW.out)):p:=f ⟨h⟩
theorem Ay{p q:Prop}(h:q)(f:Wq q->p:=by(intro hW;((first|(first|(refine aHs rfl rfl rfl rfl rfl ?_ ?_;(focus(apply aJ;(conv=>lhs;whnf);(first|done|exact rfl|(apply aG;(first|(apply decide_eq_true;omega)|(apply decide_eq_false;omega)|assumption|(simp;done)))))))|refine kV rfl rfl rfl rfl rfl bp ae ot ae ae ?_)|((try refine aB ?_);(first|(refine aLs rfl rfl rfl rfl ?_ ?_;(focus(apply aJ;(conv=>lhs;whnf);(first|done|exact rfl|(apply aG;(first|(apply decide_eq_true;omega)|(apply decide_eq_false;omega)|assumption|(simp;done)))))))|refine aLw rfl rfl rfl rfl bp ot ?_))));exact hW.out)):p:=f ⟨h⟩
theorem GL{p q:Prop}(h:q)(f:Wq q->p:=by(intro hW;((refine Hk ?_;refine aR ?_;refine zs82 ?_;refine aR ?_;refine fY ?_;refine fY ?_;refine kZ ?_;refine lM ?_;refine fY ?_;refine kZ ?_;refine lM ?_;refine Ay ?_;refine fY ?_;refine fY ?_;refine kZ ?_;refine lM ?_;refine fY ?_;refine kZ ?_;refine lM ?_;refine Ay ?_;refine zs85 ?_;refine zs86 ?_;refine zT ?_;refine cP ?_));exact hW.out)):p:=f ⟨h⟩
theorem rz{p q:Prop}(h:q)(f:Wq q->p:=by(intro hW;(refine xX [] aa (by exact uS) ?_);exact hW.out)):p:=f ⟨h⟩
theorem Hj{p q:Prop}(h:q)(f:Wq q->p:=by(intro hW;((first|(first|(refine aHs rfl rfl rfl rfl rfl ?_ ?_;(focus(apply aJ;(conv=>lhs;whnf);(first|done|exact rfl|(apply aG;(first|(apply decide_eq_true;omega)|(apply decide_eq_false;omega)|assumption|(simp;done)))))))|refine kV rfl rfl rfl rfl rfl bp ae zb33 ae ae ?_)|((try refine aB ?_);(first|(refine aLs rfl rfl rfl rfl ?_ ?_;(focus(apply aJ;(conv=>lhs;whnf);(first|done|exact rfl|(apply aG;(first|(apply decide_eq_true;omega)|(apply decide_eq_false;omega)|assumption|(simp;done)))))))|refine aLw rfl rfl rfl rfl bp zb33 ?_))));exact hW.out)):p:=f ⟨h⟩
theorem GM{p q:Prop}(h:q)(f:Wq q->p:=by(intro hW;((refine gar ?_;refine zs4 ?_;refine zs4 ?_;refine dB ?_;refine aS ?_;refine zs4 ?_;refine dB ?_;refine aS ?_;refine cO ?_;refine zs7 ?_;refine af ?_));exact hW.out)):p:=f ⟨h⟩
theorem bG{p q:Prop}(h:q)(f:Wq q->p:=by(intro hW;((first|refine aN1 rfl rfl rfl mU ?_|refine kT rfl rfl rfl mU ?_));exact hW.out)):p:=f ⟨h⟩
theorem vn{p q:Prop}(h:q)(f:Wq q->p:=by(intro hW;((refine gar ?_;refine zs4 ?_;refine mN ?_;refine af ?_));exact hW.out)):p:=f ⟨h⟩
theorem zb21{p:Prop}(h:p:=by(apply sw;(focus((apply sw;(exact uS);(focus((repeat(first|exact qQ|(apply oT;(exact rfl))|(apply qR;(exact rfl)))))))));(focus((repeat(first|exact qQ|(apply oT;(exact rfl))|(apply qR;(exact rfl)))))))):p:=h
theorem mS{p q:Prop}(h:q)(f:Wq q->p:=by(intro hW;((refine qf (i:=0) rfl rfl rfl bz bz aZ ae lR ae cE ae aa lS ?_));exact hW.out)):p:=f ⟨h⟩
theorem mR{p q:Prop}(h:q)(f:Wq q->p:=by(intro hW;(refine Le aa ?_);exact hW.out)):p:=f ⟨h⟩
end
section
open Go.RowKit
namespace DW
def atD:Option Nat->D
 |none=>zI (-1)
 |some t=>zI (t:Nat)
theorem du{M:Mx.Mat}{i:Nat}(h:i<M.length):M[i]?=some (Mx.rw M i):=by
 unfold Mx.rw;rw[List.getD_eq_getElem?_getD,List.getElem?_eq_getElem h];rfl
theorem jF{M:Mx.Mat}{n i c:Nat}(hM:Mx.Rc n M)(h:i<M.length)(hc:c<n):(Mx.rw M i)[c]?=some (Mx.at' M i c):=by
 unfold Mx.at';rw[List.getD_eq_getElem?_getD,List.getElem?_eq_getElem (by rw[hM.rw h];exact hc)];rfl
theorem KP{z:Int}{e k:Nat}(h:z.natAbs<=2^e)(he:e<16*k):(hd z.natAbs).length<=k:=eK (by
 have h1:(65536:Nat)^k=2^(16*k):=by rw[show(65536:Nat)=2^16 by rfl,<-Nat.pow_mul]
 rw[h1];exact Nat.lt_of_le_of_lt h (Nat.pow_lt_pow_right (by omega) he))
theorem wo(z:Int):sgn z=0↔z=0:=by unfold sgn;split<;>(try split)<;>omega
theorem mF{z:Int}{e:Nat}(h:z.natAbs<=2^e)(he:e<=3000000000):(hd z.natAbs).length<=199999999:=KP h (by omega)
theorem bf{z:Int}{e:Nat}(h:z.natAbs<=2^e)(he:e<=3000000000):Hf z:=Nat.le_trans (mF h he) (by decide)
theorem wb{N:Mx.Mat}{n i r c E:Nat}(hN:Mx.Rc n N)(hi:i<N.length)(hr:r<N.length)(hn:n<=1000)(hb:Mx.Bd (2^E) N)(hE:2*E<=3000000000):Fn Tryz.prog 149 [dZ (Mx.rw N i),dZ (Mx.rw N r),.nm (Mx.at' N i c/Mx.at' N r c)] (dZ (Mx.cI (Mx.rw N r) c (Mx.rw N i))):=by
 have hm:∀{i:Nat} {x:Int},x∈Mx.rw N i->x.natAbs<=2^E:=fun {i x} hx=>by
  obtain⟨j,hj,e⟩:=List.getElem_of_mem hx;have:=hb i j;unfold Mx.at' at this;rw[List.getD_eq_getElem?_getD,List.getElem?_eq_getElem hj,e]at this;exact this
 have hq:(Mx.at' N i c/Mx.at' N r c).natAbs<=2^E:=Nat.le_trans (Mx.fT _ _) (hb i c);refine Cj (Mx.rw N i) (Mx.rw N r) _ (by rw[hN.rw hi,hN.rw hr]) (by rw[hN.rw hi];omega) (fun x hx=>bf (hm hx) (by omega)) (fun y hy=>⟨bf (hm hy) (by omega),bf (e:=E+E) ?_ (by omega)⟩) (bf hq (by omega));rw[Int.natAbs_mul,Nat.pow_add];exact Nat.mul_le_mul hq (hm hy)
theorem IL(N:Mx.Mat)(r t:Nat):((N.map dZ).set r (dZ (Mx.rw N t))).set t (dZ (Mx.rw N r))=(Mx.swp N r t).map dZ:=by
 unfold Mx.swp;rw[List.map_set,List.map_set]
set_option maxRecDepth 20000
set_option maxHeartbeats 2000000
theorem Ec(m:Mx.Mat)(n cN e p:Nat)(hR:Mx.Rc n m)(hc:cN<=n)(hn:n<=1000)(hm:m.length<=1000)(he:6<=e)(hp:m.length<=p\/cN<=p)(hf:2*(e*11^p)<=3000000000)(hb:Mx.Bd (2^e) m):
  Fn Tryz.prog 78 [dW m,zI cN] (dW (Mx.red cN 0 (0,m)).2):=by
 obtain⟨T,hT⟩:∃T,T=Mx.red cN 0 (0,m):=⟨_,rfl⟩;rw[<-hT];obtain⟨L,hL⟩:∃L,L=m.length:=⟨_,rfl⟩;rw[<-hL]at hp;refine aP Tryz.func78 aa rfl rfl rfl fun X0=>?_;simp only[aD]
 (repeat(first|refine gk fun K hK=>?_|refine zs2 ?_));refine bK ?_;(repeat(first|refine gk fun K hK=>?_|refine zs2 ?_));(refine gar ?_;(refine zO (k:=19) (wd:=1) (T:=Tryz.prog.elem 27) rfl rfl rfl rfl aa aa ae ae bD ?_);refine zs4 ?_;(refine kU rfl rfl rfl rfl bz bz aZ ae qx aa aa (by(simp only[List.length_map,List.length_nil];omega)) bD qv ?_);refine zs6 ?_;refine af ?_);(repeat(first|refine gk fun K hK=>?_|refine zs2 ?_));refine aH ?_;(repeat(first|refine gk fun K hK=>?_|refine zs2 ?_));refine aH ?_;(repeat(first|refine gk fun K hK=>?_|refine zs2 ?_))
 (refine ak (ai (sl':=[(1,zI cN),(5, .own 19),(6,zI 0),(7,zI 0)]) (ow':=[(19,⟨113,1,m.map dZ⟩)]) an aw) ?_)
 refine aE (fun k s=>∃r c M,k=cN-c/\c<=cN/\Mx.Rc n M/\M.length=L/\(r<=L/\r<=c)/\Mx.red (cN-c) c (r,M)=T/\Mx.Bd (2^(e*11^r)) M/\s=⟨[(1,zI cN),(5, .own 19),(6,zI (r:Nat)),(7,zI (c:Nat))],[(19,⟨113,1,M.map dZ⟩)]⟩) (m:=cN) ⟨0,0,m,rfl,Nat.zero_le _,hR,hL.symm,⟨Nat.zero_le _,Nat.zero_le _⟩,hT.symm,by rw[Nat.pow_zero,Nat.mul_one];exact hb,rfl⟩ fun k s hs=>?_;clear hT hb;obtain⟨r,c,M,rfl,hcN,hM,hML,hr,hT,hb,rfl⟩:=hs;by_cases hgo:c<cN/\r<L
 ·obtain⟨hcc,hrr⟩:=hgo;have hd1:decide ((c:Int)<(cN:Int))=true:=decide_eq_true (by omega);have hcn:c<n:=by omega
  (repeat(first|refine gk fun K hK=>?_|refine zs2 ?_));refine Ag ?_;(repeat(first|refine gk fun K hK=>?_|refine zs2 ?_))
  refine av ?_
  (repeat(first|refine gk fun K hK=>?_|refine zs2 ?_))
  obtain⟨X,hX⟩:∃X,X=2^(e*11^r):=⟨_,rfl⟩;obtain⟨K0,hK0⟩:∃K0,K0=6*X^5:=⟨_,rfl⟩;obtain⟨E,hE⟩:∃E,E=e*11^(r+1):=⟨_,rfl⟩;obtain⟨Mc,hMc⟩:∃Mc,Mc=Mx.cu r c M:=⟨_,rfl⟩;have hEf:2*E<=3000000000:=Nat.le_trans (Nat.mul_le_mul_left 2 (by rw[hE];exact Nat.mul_le_mul_left e (Nat.pow_le_pow_right (by omega) (by omega)))) hf;have hX1:1<=X:=by rw[hX];exact Nat.pow_pos (by omega)
  have hnb:K0*(K0+1)<=2^E:=by
   have h1:6<=e*11^r:=Nat.le_trans he (Nat.le_mul_of_pos_right _ (Nat.pow_pos (by omega)));have h2:=Mx.sd h1;rw[Mx.e11,<-hX,<-hE]at h2;rw[hK0];exact h2
  have hKE:K0<=2^E:=Nat.le_trans (Nat.le_mul_of_pos_right _ (by omega)) hnb;rw[<-hX]at hb;have hJ:Mx.Jn K0 r c M:= .inl ⟨X,hX1,hb,by rw[hK0];exact Nat.le_refl _⟩;have hcl:=(Mx.nU (r:=r) (c:=c) hM).1.re;have hMcR:Mx.Rc n Mc:=by rw[hMc];exact hcl.rc hM
  have hMcL:Mc.length=L:=by rw[hMc,hcl.len];exact hML
  have hMcB:Mx.Bd K0 Mc:=by rw[hMc];exact Mx.um hM hJ
  have hB0:Mx.at' Mc r c=0->Mx.Bd (2^(e*11^r)) Mc:=fun h0=>by
   rw[hMc]at h0⊢;rw[(Mx.Ej (r:=r) (c:=c) hM).resolve_right (fun hh=>hh h0),<-hX];exact hb
  clear hcl hX hK0 hX1;have TAIL:K ⟨[(1,zI cN),(5, .own 19),(6,zI (r:Nat)),(7,zI (c:Nat))],[(19,⟨113,1,Mc.map dZ⟩)]⟩:=by
   apply hK;have hrM:r<Mc.length:=by omega
   have hgr:=du hrM;have hxr:=jF hMcR hrM hcn;have SX:=oE (Mx.at' Mc r c) (bf (Nat.le_trans (hMcB r c) hKE) (by omega));have gx:=wo (Mx.at' Mc r c);have gn:=pI (Mx.at' Mc r c);have hT1:Mx.red (cN-(c+1)) (c+1) (Mx.step r c M)=T:=by
    rw[<-hT,show cN-c=cN-(c+1)+1 by omega,Mx.wE (by omega)]
   by_cases h0:Mx.at' Mc r c=0
   ·have eS : Mx.step r c M = (r, Mc) := by
     unfold Mx.step;simp only[];rw[<-hMc,if_pos h0]
    rw[eS]at hT1;have hB2:=hB0 h0
    (repeat(first|refine gk fun K hK=>?_|refine zs2 ?_));refine pq ?_;(repeat(first|refine gk fun K hK=>?_|refine zs2 ?_))
    refine av ?_
    (repeat(first|refine gk fun K hK=>?_|refine zs2 ?_));refine aX ?_;(repeat(first|refine gk fun K hK=>?_|refine zs2 ?_))
    simp only[nx,inB];exact⟨cN-(c+1),_,by omega,(ai (sl':=[(1,zI cN),(5, .own 19),(6,zI (r:Nat)),(7,zI ((c+1:Nat):Int))]) (ow':=[(19,⟨113,1,Mc.map dZ⟩)]) an aw),r,c+1,Mc,rfl,by omega,hMcR,hMcL,⟨hr.1,by omega⟩,hT1,hB2,rfl⟩
   ·have eS : Mx.step r c M = (r + 1, Mx.iU r c (Mx.bQ r c Mc)) := by
     unfold Mx.step;simp only[];rw[<-hMc,if_neg h0]
    rw[eS]at hT1;unfold Mx.iU at hT1;have hSB:=Mx.tO (c:=c) hMcB hrM;have hSre:=Mx.pH (c:=c) hrM;have hSR:=hSre.rc hMcR;have hSL:(Mx.bQ r c Mc).length=L:=by rw[hSre.len];exact hMcL
    have hAB:∀k,k<=(Mx.bQ r c Mc).length->Mx.Bd (2^E) (Mx.aI r c 0 (Mx.bQ r c Mc) k):=fun k hk=>(Mx.xW hSR (by omega) hSB hk).mono hnb;have hpiv:Mx.at' (Mx.bQ r c Mc) r c≠0:=by
     unfold Mx.bQ;split
     ·rw[Mx.mI _ _ _ _ _ hrM,if_pos rfl,Mx.mB];show-(Mx.at' Mc r c)≠0;omega
     ·exact h0
    clear hSre hSB
    (repeat(first|refine gk fun K hK=>?_|refine zs2 ?_));refine pq ?_;(repeat(first|refine gk fun K hK=>?_|refine zs2 ?_))
    refine az ?_
    (repeat refine zs2 ?_)
    refine gk fun K2 hK2=>?_;have TAIL2:∀s,Sh X0 Tryz.f78.ntmps s ⟨[(1,zI cN),(5, .own 19),(6,zI (r:Nat)),(7,zI (c:Nat))],[(19,⟨113,1,(Mx.bQ r c Mc).map dZ⟩)]⟩->K2 s:=by
     intro s hs;apply hK2;refine ak hs ?_;obtain⟨S,hS⟩:∃S,S=Mx.bQ r c Mc:=⟨_,rfl⟩;rw[<-hS]at hT1 hSR hSL hAB hpiv;rw[<-hS];clear hS hK2 hgr hxr SX gx gn h0 eS
     (repeat(first|refine gk fun K hK=>?_|refine zs2 ?_));refine aH ?_;(repeat(first|refine gk fun K hK=>?_|refine zs2 ?_))
     (refine ak (ai (sl':=[(1,zI cN),(5, .own 19),(6,zI (r:Nat)),(7,zI (c:Nat)),(15,zI 0)]) (ow':=[(19,⟨113,1,S.map dZ⟩)]) an aw) ?_)
     refine aE (fun k s=>∃j,j<=r/\k=r-j/\s=⟨[(1,zI cN),(5, .own 19),(6,zI (r:Nat)),(7,zI (c:Nat)),(15,zI (j:Nat))],[(19,⟨113,1,(Mx.aI r c 0 S j).map dZ⟩)]⟩) (m:=r) ⟨0,Nat.zero_le _,rfl,rfl⟩ fun k s hs=>?_;obtain⟨j,hjr,rfl,rfl⟩:=hs;have hLN:(Mx.aI r c 0 S j).length=L:=by rw[Mx.ck];exact hSL
     have hBN:=hAB j (by omega);have hRN:Mx.Rc n (Mx.aI r c 0 S j):=Mx.jj hSR (by omega) j (by omega);by_cases hj:j<r
     ·have HNX : Mx.aI r c 0 S (j + 1) = (Mx.aI r c 0 S j).set j (Mx.cI (Mx.rw (Mx.aI r c 0 S j) r) c (Mx.rw (Mx.aI r c 0 S j) j)) := by
       have:=Mx.iM (r:=r) (c:=c) (s:=0) (k:=j) (M:=S) (by omega) (by omega);rw[Nat.zero_add]at this;exact this
      have hpn:Mx.at' (Mx.aI r c 0 S j) r c≠0:=by
       unfold Mx.at';rw[Mx.cJ r c 0 S j (by omega) r,if_neg (by omega)];exact hpiv
      obtain⟨A,hA⟩:∃A,A=Mx.aI r c 0 S j:=⟨_,rfl⟩;rw[<-hA]at HNX hpn hBN hRN hLN;rw[<-hA];clear hA hAB hT1;have hgj:=du (M:=A) (i:=j) (by omega);have hgr:=du (M:=A) (i:=r) (by omega);have hxj:=jF hRN (show j<A.length by omega) hcn;have hxr:=jF hRN (show r<A.length by omega) hcn;have DM:=qZ (Mx.at' A j c) (Mx.at' A r c) (bf (hBN j c) (by omega)) (bf (hBN r c) (by omega)) hpn;have TK:=wb (c:=c) hRN (show j<A.length by omega) (show r<A.length by omega) hn hBN hEf;have hjj:(j:Int)=((j:Nat):Int):=rfl
      (repeat(first|refine gk fun K hK=>?_|refine zs2 ?_));refine gP ?_;(repeat(first|refine gk fun K hK=>?_|refine zs2 ?_))
      refine av ?_
      (repeat(first|refine gk fun K hK=>?_|refine zs2 ?_));((refine xX [16,17] aa zb21 ?_);refine bG ?_;refine bG ?_;refine dz ?_;refine ct ?_;refine bG ?_;refine dz ?_;refine ct ?_;refine bG ?_;refine bG ?_;refine dz ?_;refine ct ?_;refine bG ?_;refine dz ?_;refine ct ?_;refine vu ?_;refine bG ?_;refine lf ?_;refine lf ?_;refine lf ?_;(refine qg (k:=16) (z:=(.agg #[.bool false, .slice none 0 0])) (d:=(.nm 0)) rfl rfl rfl rfl rfl aa ae ae cE ae ae ?_);(refine qg (k:=17) (z:=(.agg #[.bool false, .slice none 0 0])) (d:=(.nm 0)) rfl rfl rfl rfl rfl aa ae ae cE ae ae ?_);refine mS ?_;refine mS ?_;refine AA ?_;refine mR ?_);(repeat(first|refine gk fun K hK=>?_|refine zs2 ?_))
      (refine ak (ai (sl':=[(1,zI cN),(5, .own 19),(6,zI (r:Nat)),(7,zI (c:Nat)),(15,zI (j:Nat)),(16, .opt 16 0)]) (ow':=[(16,⟨62,2,[.nm (Mx.at' A j c/Mx.at' A r c)]⟩),(19,⟨113,1,A.map dZ⟩)]) an aw) ?_)
      (repeat(first|refine gk fun K hK=>?_|refine zs2 ?_));refine GN ?_;(repeat(first|refine gk fun K hK=>?_|refine zs2 ?_));refine aX ?_;(repeat(first|refine gk fun K hK=>?_|refine zs2 ?_))
      simp only[nx,inB];exact⟨r-(j+1),_,by omega,(ai (sl':=[(1,zI cN),(5, .own 19),(6,zI (r:Nat)),(7,zI (c:Nat)),(15,zI ((j+1:Nat):Int))]) (ow':=[(19,⟨113,1,(A.map dZ).set j (dZ (Mx.cI (Mx.rw A r) c (Mx.rw A j)))⟩)]) an aw),j+1,by omega,rfl,by rw[HNX,List.map_set]⟩
     ·obtain rfl:j=r:=by omega
      rw[hE]at hBN
      (repeat(first|refine gk fun K hK=>?_|refine zs2 ?_));refine gP ?_;(repeat(first|refine gk fun K hK=>?_|refine zs2 ?_))
      refine az ?_
      (repeat(first|refine gk fun K hK=>?_|refine zs2 ?_));refine aX ?_;(repeat(first|refine gk fun K hK=>?_|refine zs2 ?_));refine aX ?_;(repeat(first|refine gk fun K hK=>?_|refine zs2 ?_))
      simp only[nx,inB];exact⟨cN-(c+1),_,by omega,(ai (sl':=[(1,zI cN),(5, .own 19),(6,zI ((j+1:Nat):Int)),(7,zI ((c+1:Nat):Int))]) (ow':=[(19,⟨113,1,(Mx.aI j c 0 S j).map dZ⟩)]) an aw),j+1,c+1,_,rfl,by omega,hRN,hLN,⟨by omega,by omega⟩,hT1,hBN,rfl⟩
    clear hK2;by_cases hneg:Mx.at' Mc r c<0
    ·have hgs:=gn.2 hneg;have eG:Mx.bQ r c Mc=Mc.set r (Mx.neg (Mx.rw Mc r)):=by unfold Mx.bQ;rw[if_pos hneg]
     rw[eG,List.map_set]at TAIL2;have hrl:(Mx.rw Mc r).length=n:=hMcR.rw hrM;have hin:∀x∈Mx.rw Mc r,x.natAbs<=2^E:=fun x hx=>by
      obtain⟨j,hj,e⟩:=List.getElem_of_mem hx;have:=hMcB r j;unfold Mx.at' at this;rw[List.getD_eq_getElem?_getD,List.getElem?_eq_getElem hj,e]at this;exact Nat.le_trans this hKE
     have hf1:Hf 1:=by unfold Hf;rw[show(1:Int).natAbs=1 from rfl,sC];decide
     have hf0:Hf 0:=by unfold Hf;rw[show(0:Int).natAbs=0 from rfl,(iK 0).2 rfl];decide
     have TK:=Cj (List.replicate (Mx.rw Mc r).length 0) (Mx.rw Mc r) 1 (by simp) (by rw[List.length_replicate];omega) (fun x hx=>by rw[List.eq_of_mem_replicate hx];exact hf0) (fun y hy=>⟨bf (hin y hy) (by omega),by rw[Int.one_mul];exact bf (hin y hy) (by omega)⟩) hf1;have eN:Mx.dw (-1) (List.replicate (Mx.rw Mc r).length 0) (Mx.rw Mc r)=Mx.neg (Mx.rw Mc r):=by
      refine Mx.my (by rw[Mx.ij _ _ _ (by simp),List.length_replicate,Mx.jd]) fun j=>?_;rw[Mx.ke _ _ _ _ (by simp),Mx.mB,List.getD_eq_getElem?_getD,List.getElem?_replicate];split<;>simp<;>omega
     rw[eN]at TK;unfold dZ at TK;rw[List.map_replicate]at TK;have OF:=wJ 1 (by omega);have hrr':(r:Int)=((r:Nat):Int):=rfl
     (repeat(first|refine gk fun K hK=>?_|refine zs2 ?_));refine GM ?_;(repeat(first|refine gk fun K hK=>?_|refine zs2 ?_))
     refine av ?_
     (repeat(first|refine gk fun K hK=>?_|refine zs2 ?_));(((first|(apply ao 15;(focus kernel_rfl);(decide+kernel))|(apply ao 14;(focus kernel_rfl);(decide+kernel))|(apply ao 13;(focus kernel_rfl);(decide+kernel))|(apply ao 12;(focus kernel_rfl);(decide+kernel))|(apply ao 11;(focus kernel_rfl);(decide+kernel))|(apply ao 10;(focus kernel_rfl);(decide+kernel))|(apply ao 9;(focus kernel_rfl);(decide+kernel))|(apply ao 8;(focus kernel_rfl);(decide+kernel)));simp only[List.take_succ_cons,List.take_zero,List.drop_succ_cons,List.drop_zero]);refine aR ?_;refine aR ?_;refine aR ?_;refine aR ?_;refine dn ?_;refine bq ?_;refine sX ?_;(first|refine cC rfl rfl rfl ae zb11 ae ae ?_|((try refine aB ?_);refine aL1 rfl rfl rfl zb11 ?_));refine aR ?_;refine aR ?_;refine dn ?_;refine bq ?_;(first|refine cC rfl rfl rfl ae vS ae ae ?_|((try refine aB ?_);refine aL1 rfl rfl rfl vS ?_));refine Az ?_;refine dn ?_;((try refine aB ?_);(refine kg (i:=r) rfl rfl rfl bz bz aZ ae lR ae cE ae aa lS ?_));refine cP ?_);(repeat(first|refine gk fun K hK=>?_|refine zs2 ?_))
     exact(ai (sl':=[(1,zI cN),(5, .own 19),(6,zI (r:Nat)),(7,zI (c:Nat))]) (ow':=[(19,⟨113,1,(Mc.map dZ).set r (dZ (Mx.neg (Mx.rw Mc r)))⟩)]) an aw)
    ·have hgs:¬sgn (Mx.at' Mc r c)<0:=fun h=>hneg (gn.1 h);have eG:Mx.bQ r c Mc=Mc:=by unfold Mx.bQ;rw[if_neg hneg]
     rw[eG]at TAIL2
     (repeat(first|refine gk fun K hK=>?_|refine zs2 ?_));refine GM ?_;(repeat(first|refine gk fun K hK=>?_|refine zs2 ?_))
     refine az ?_
     (repeat(first|refine gk fun K hK=>?_|refine zs2 ?_))
     exact(ai (sl':=[(1,zI cN),(5, .own 19),(6,zI (r:Nat)),(7,zI (c:Nat))]) (ow':=[(19,⟨113,1,Mc.map dZ⟩)]) an aw)
  clear hK;have hred:0<cN-c:=by omega
  (refine ak (ai (sl':=[(1,zI cN),(5, .own 19),(6,zI (r:Nat)),(7,zI (c:Nat))]) (ow':=[(19,⟨113,1,M.map dZ⟩)]) an aw) ?_)
  refine aE (fun k s=>∃N,k=Mx.fM r c N/\Mx.Rc n N/\N.length=L/\Mx.Jn K0 r c N/\Mx.cu r c N=Mc/\s=⟨[(1,zI cN),(5, .own 19),(6,zI (r:Nat)),(7,zI (c:Nat))],[(19,⟨113,1,N.map dZ⟩)]⟩) (m:=Mx.fM r c M) ⟨M,rfl,hM,hML,hJ,hMc.symm,rfl⟩ fun k s hs=>?_;clear hJ hb hT hMc hML hM;obtain⟨N,rfl,hN,hNL,hJ,hNc,rfl⟩:=hs;have hNB:∀i,(Mx.at' N i c).natAbs<=2^E:=fun i=>Nat.le_trans (Mx.nJ hJ i c) hKE
  (repeat(first|refine gk fun K hK=>?_|refine zs2 ?_));refine Al ?_;(repeat(first|refine gk fun K hK=>?_|refine zs2 ?_));refine fC ?_;(repeat(first|refine gk fun K hK=>?_|refine zs2 ?_))
  (refine ak (ai (sl':=[(1,zI cN),(5, .own 19),(6,zI (r:Nat)),(7,zI (c:Nat)),(8,zI (-1)),(9, .sc (.bool false)),(10,zI (r:Nat))]) (ow':=[(19,⟨113,1,N.map dZ⟩)]) an aw) ?_)
  refine aE (fun k s=>∃i,r<=i/\i<=L/\k=L-i/\s=⟨[(1,zI cN),(5, .own 19),(6,zI (r:Nat)),(7,zI (c:Nat)),(8,atD (Mx.scan c r N (i-r)).1),(9, .sc (.bool (decide (2<=(Mx.scan c r N (i-r)).2)))),(10,zI (i:Nat))],[(19,⟨113,1,N.map dZ⟩)]⟩) (m:=L-r) ⟨r,Nat.le_refl _,by omega,rfl,by rw[Nat.sub_self];rfl⟩ fun k s hs=>?_;obtain⟨i,hri,hiL,rfl,rfl⟩:=hs;by_cases hi:i<L
  ·have hgi:=du (M:=N) (i:=i) (by omega);have hxi:=jF hN (show i<N.length by omega) hcn;have SX:=oE (Mx.at' N i c) (bf (hNB i) (by omega));have gx:=wo (Mx.at' N i c);by_cases h0:Mx.at' N i c=0
   ·have HZ:=Mx.CG hri h0;rw[<-HZ];obtain⟨d8,h8⟩:∃d,d=atD (Mx.scan c r N (i+1-r)).1:=⟨_,rfl⟩;rw[<-h8]
    (repeat(first|refine gk fun K hK=>?_|refine zs2 ?_));refine aK ?_;(repeat(first|refine gk fun K hK=>?_|refine zs2 ?_))
    refine av ?_
    (repeat(first|refine gk fun K hK=>?_|refine zs2 ?_));refine pq ?_;(repeat(first|refine gk fun K hK=>?_|refine zs2 ?_))
    refine av ?_
    (repeat(first|refine gk fun K hK=>?_|refine zs2 ?_));refine aX ?_;(repeat(first|refine gk fun K hK=>?_|refine zs2 ?_))
    simp only[nx,inB];exact⟨L-(i+1),_,by omega,(ai (sl':=[(1,zI cN),(5, .own 19),(6,zI (r:Nat)),(7,zI (c:Nat)),(8,d8),(9, .sc (.bool (decide (2<=(Mx.scan c r N (i+1-r)).2)))),(10,zI ((i+1:Nat):Int))]) (ow':=[(19,⟨113,1,N.map dZ⟩)]) an aw),i+1,by omega,by omega,rfl,by rw[h8]⟩
   ·cases hp:(Mx.scan c r N (i-r)).1 with
    |none=>
     have h2:=((Mx.dm c r N (i-r)).no hp).1;have HS:=Mx.CH hri h0 hp;rw[h2]at HS;rw[show atD none=zI (-1)from rfl,h2,show decide (2<=0)=false from rfl]
     (repeat(first|refine gk fun K hK=>?_|refine zs2 ?_));refine aK ?_;(repeat(first|refine gk fun K hK=>?_|refine zs2 ?_))
     refine av ?_
     (repeat(first|refine gk fun K hK=>?_|refine zs2 ?_));refine pq ?_;(repeat(first|refine gk fun K hK=>?_|refine zs2 ?_))
     refine az ?_
     (repeat(first|refine gk fun K hK=>?_|refine zs2 ?_));refine Af ?_;(repeat(first|refine gk fun K hK=>?_|refine zs2 ?_));(refine Hk ?_;refine aR ?_;refine zs82 ?_;refine aR ?_;refine fY ?_;refine fY ?_;refine kZ ?_;refine lM ?_;refine fY ?_;refine kZ ?_;refine lM ?_;refine Hj ?_;refine fY ?_;refine fY ?_;refine kZ ?_;refine lM ?_;refine fY ?_;refine kZ ?_;refine lM ?_;refine Hj ?_;(first|(first|(refine aHs rfl rfl rfl rfl rfl ?_ ?_;(focus(apply aJ;(conv=>lhs;whnf);(first|done|exact rfl|(apply aG;(first|(apply decide_eq_true;omega)|(apply decide_eq_false;omega)|assumption|(simp;done)))))))|refine kV rfl rfl rfl rfl rfl bp ae zb25 ae ae ?_)|((try refine aB ?_);(first|(refine aLs rfl rfl rfl rfl ?_ ?_;(focus(apply aJ;(conv=>lhs;whnf);(first|done|exact rfl|(apply aG;(first|(apply decide_eq_true;omega)|(apply decide_eq_false;omega)|assumption|(simp;done)))))))|refine aLw rfl rfl rfl rfl bp zb25 ?_)));refine zs86 ?_;refine zT ?_;refine cP ?_);(repeat(first|refine gk fun K hK=>?_|refine zs2 ?_))
     refine av ?_
     (repeat(first|refine gk fun K hK=>?_|refine zs2 ?_));refine fC ?_;(repeat(first|refine gk fun K hK=>?_|refine zs2 ?_));refine aX ?_;(repeat(first|refine gk fun K hK=>?_|refine zs2 ?_))
     simp only[nx,inB];exact⟨L-(i+1),_,by omega,(ai (sl':=[(1,zI cN),(5, .own 19),(6,zI (r:Nat)),(7,zI (c:Nat)),(8,zI (i:Nat)),(9, .sc (.bool false)),(10,zI ((i+1:Nat):Int))]) (ow':=[(19,⟨113,1,N.map dZ⟩)]) an aw),i+1,by omega,by omega,rfl,by rw[HS];rfl⟩
    |some t=>
     have HT:=(Mx.dm c r N (i-r)).yes t hp;have htL:t<L:=by have:=HT.2.1;omega
     have hq1:1<=(Mx.scan c r N (i-r)).2:=HT.2.2.2.2.1;clear HT;have HLT:=Mx.yO hri h0 hp;have HGE:=Mx.yP hri h0 hp;obtain⟨q,hq⟩:∃q,q=(Mx.scan c r N (i-r)).2:=⟨_,rfl⟩;rw[<-hq]at HLT HGE hq1;rw[<-hq,show atD (some t)=zI (t:Nat)from rfl];clear hq hp;have hgt:=du (M:=N) (i:=t) (by omega);have hxt:=jF hN (show t<N.length by omega) hcn;have S1:=Cw (Mx.at' N i c) (bf (hNB i) (by omega));have S2:=Cw (Mx.at' N t c) (bf (hNB t) (by omega));have CM:=BH ((Mx.at' N i c).natAbs:Int) ((Mx.at' N t c).natAbs:Int) (mF (by rw[Int.natAbs_natCast];exact hNB i) (by omega)) (mF (by rw[Int.natAbs_natCast];exact hNB t) (by omega));have gs:=pI (((Mx.at' N i c).natAbs:Int)-((Mx.at' N t c).natAbs:Int));have hii:(i:Int)=((i:Nat):Int):=rfl;by_cases hlt:(Mx.at' N i c).natAbs<(Mx.at' N t c).natAbs
     ·have HS:=HLT hlt;clear HLT HGE;have hg:=gs.2 (by omega);by_cases h2q:2<=q;all_goals
       first
       |rw[show decide (2<=q)=true from decide_eq_true h2q]
       |rw[show decide (2<=q)=false from decide_eq_false h2q]
       (repeat(first|refine gk fun K hK=>?_|refine zs2 ?_));refine aK ?_;(repeat(first|refine gk fun K hK=>?_|refine zs2 ?_))
       refine av ?_
       (repeat(first|refine gk fun K hK=>?_|refine zs2 ?_));refine pq ?_;(repeat(first|refine gk fun K hK=>?_|refine zs2 ?_))
       refine az ?_
       (repeat(first|refine gk fun K hK=>?_|refine zs2 ?_));refine Af ?_;(repeat(first|refine gk fun K hK=>?_|refine zs2 ?_));refine GL ?_;(repeat(first|refine gk fun K hK=>?_|refine zs2 ?_))
       refine av ?_
       (repeat(first|refine gk fun K hK=>?_|refine zs2 ?_));refine fC ?_;(repeat(first|refine gk fun K hK=>?_|refine zs2 ?_));refine aX ?_;(repeat(first|refine gk fun K hK=>?_|refine zs2 ?_))
       simp only[nx,inB];exact⟨L-(i+1),_,by omega,(ai (sl':=[(1,zI cN),(5, .own 19),(6,zI (r:Nat)),(7,zI (c:Nat)),(8,zI (i:Nat)),(9, .sc (.bool true)),(10,zI ((i+1:Nat):Int))]) (ow':=[(19,⟨113,1,N.map dZ⟩)]) an aw),i+1,by omega,by omega,rfl,by rw[HS,show decide (2<=q+1)=true from decide_eq_true (by omega)];rfl⟩
     ·have HS:=HGE hlt;clear HLT HGE;have hg:¬sgn (((Mx.at' N i c).natAbs:Int)-((Mx.at' N t c).natAbs:Int))<0:=fun h=>hlt (by have:=gs.1 h;omega);by_cases h2q:2<=q;all_goals
       first
       |rw[show decide (2<=q)=true from decide_eq_true h2q]
       |rw[show decide (2<=q)=false from decide_eq_false h2q]
       (repeat(first|refine gk fun K hK=>?_|refine zs2 ?_));refine aK ?_;(repeat(first|refine gk fun K hK=>?_|refine zs2 ?_))
       refine av ?_
       (repeat(first|refine gk fun K hK=>?_|refine zs2 ?_));refine pq ?_;(repeat(first|refine gk fun K hK=>?_|refine zs2 ?_))
       refine az ?_
       (repeat(first|refine gk fun K hK=>?_|refine zs2 ?_));refine Af ?_;(repeat(first|refine gk fun K hK=>?_|refine zs2 ?_));refine GL ?_;(repeat(first|refine gk fun K hK=>?_|refine zs2 ?_))
       refine az ?_
       (repeat(first|refine gk fun K hK=>?_|refine zs2 ?_));refine aX ?_;(repeat(first|refine gk fun K hK=>?_|refine zs2 ?_))
       simp only[nx,inB];exact⟨L-(i+1),_,by omega,(ai (sl':=[(1,zI cN),(5, .own 19),(6,zI (r:Nat)),(7,zI (c:Nat)),(8,zI (t:Nat)),(9, .sc (.bool true)),(10,zI ((i+1:Nat):Int))]) (ow':=[(19,⟨113,1,N.map dZ⟩)]) an aw),i+1,by omega,by omega,rfl,by rw[HS,show decide (2<=q+1)=true from decide_eq_true (by omega)];rfl⟩
  ·obtain rfl:i=L:=by omega
   have hpk:Mx.pick r c N=Mx.scan c r N (i-r):=by unfold Mx.pick;rw[hNL]
   cases hp:(Mx.scan c r N (i-r)).1 with
   |none=>
    have eN:N=Mc:=by rw[<-hNc,Mx.pg (by rw[hpk];exact hp)]
    rw[<-eN]at TAIL;rw[show atD none=zI (-1)from rfl]
    (repeat(first|refine gk fun K hK=>?_|refine zs2 ?_));refine aK ?_;(repeat(first|refine gk fun K hK=>?_|refine zs2 ?_))
    refine az ?_
    (repeat(first|refine gk fun K hK=>?_|refine zs2 ?_));refine eM ?_;(repeat(first|refine gk fun K hK=>?_|refine zs2 ?_))
    refine av ?_
    (refine ak (ai (sl':=[(1,zI cN),(5, .own 19),(6,zI (r:Nat)),(7,zI (c:Nat))]) (ow':=[(19,⟨113,1,N.map dZ⟩)]) an aw) ?_)
    (repeat(first|refine gk fun K hK=>?_|refine zs2 ?_))
    all_goals((simp only[nx,inB,ite_true,ite_false,↓reduceIte,Nat.reduceEqDiff,reduceCtorEq]);apply_assumption-exfalso)
   |some t=>
    have HT:=(Mx.dm c r N (i-r)).yes t hp;have htL:t<i:=by have:=HT.2.1;omega
    have htz:=HT.2.2.1;have hq1:1<=(Mx.scan c r N (i-r)).2:=HT.2.2.2.2.1;clear HT;have hp':(Mx.pick r c N).1=some t:=by rw[hpk];exact hp
    have ONE:=Mx.rh (r:=r) (c:=c) (M:=N) hp';have STP:=Mx.pe hN hp';have MEA:=Mx.gf hN hp';have JST:=Mx.uc hN hJ hp';rw[hpk]at ONE STP MEA JST;obtain⟨q,hq⟩:∃q,q=(Mx.scan c r N (i-r)).2:=⟨_,rfl⟩;rw[<-hq]at hq1 ONE STP MEA JST;rw[<-hq,show atD (some t)=zI (t:Nat)from rfl];clear hq hp hp' hpk;have hgr:=du (M:=N) (i:=r) (by omega);have hgt:=du (M:=N) (i:=t) (by omega);have hsm:=IL N r t;have hrr':(r:Int)=((r:Nat):Int):=rfl;have htt':(t:Int)=((t:Nat):Int):=rfl
    (repeat(first|refine gk fun K hK=>?_|refine zs2 ?_));refine aK ?_;(repeat(first|refine gk fun K hK=>?_|refine zs2 ?_))
    refine az ?_
    (repeat(first|refine gk fun K hK=>?_|refine zs2 ?_));refine eM ?_;(repeat(first|refine gk fun K hK=>?_|refine zs2 ?_))
    refine az ?_
    (repeat(first|refine gk fun K hK=>?_|refine zs2 ?_));(refine rz ?_;refine bG ?_;refine bG ?_;refine bG ?_;refine bG ?_;refine bG ?_;refine bG ?_;refine dz ?_;refine ct ?_;refine bG ?_;refine bG ?_;refine dz ?_;refine ct ?_;refine dz ?_;(refine qf (i:=r) rfl rfl rfl bz bz aZ ae lR ae cE ae aa lS ?_);refine dz ?_;(refine qf (i:=t) rfl rfl rfl bz bz aZ ae lR ae cE ae aa lS ?_);refine mR ?_);(repeat(first|refine gk fun K hK=>?_|refine zs2 ?_))
    (refine ak (ai (sl':=[(1,zI cN),(5, .own 19),(6,zI (r:Nat)),(7,zI (c:Nat)),(9, .sc (.bool (decide (2<=q))))]) (ow':=[(19,⟨113,1,((N.map dZ).set r (dZ (Mx.rw N t))).set t (dZ (Mx.rw N r))⟩)]) an aw) ?_)
    rw[hsm];by_cases hq2:q=1
    ·have eN:Mx.swp N r t=Mc:=by rw[<-hNc,ONE hq2]
     rw[<-eN]at TAIL
     (repeat(first|refine gk fun K hK=>?_|refine zs2 ?_));refine vn ?_;(repeat(first|refine gk fun K hK=>?_|refine zs2 ?_))
     refine av ?_
     (refine ak (ai (sl':=[(1,zI cN),(5, .own 19),(6,zI (r:Nat)),(7,zI (c:Nat))]) (ow':=[(19,⟨113,1,(Mx.swp N r t).map dZ⟩)]) an aw) ?_)
     (repeat(first|refine gk fun K hK=>?_|refine zs2 ?_))
     all_goals((simp only[nx,inB,ite_true,ite_false,↓reduceIte,Nat.reduceEqDiff,reduceCtorEq]);apply_assumption-exfalso)
    ·have HE:=(STP hq2).symm.trans hNc;obtain⟨hrN,htN,hrt,hmeas⟩:=MEA hq2;obtain⟨hJB,hJ2⟩:=JST hq2;clear STP MEA JST ONE hsm hgr hgt;have hSR:=Mx.jB hN hrN htN;have hSL:(Mx.swp N r t).length=i:=by rw[Mx.cj];exact hNL
     have hpiv:Mx.at' (Mx.swp N r t) r c≠0:=by
      rw[Mx.bS hrN htN];split
      ·rename_i e;rw[e];exact htz
      ·rw[if_pos rfl];exact htz
     unfold Mx.elim at HE hmeas hJ2;rw[hNL]at hJB;rw[hSL]at HE hmeas hJ2;obtain⟨S,hS⟩:∃S,S=Mx.swp N r t:=⟨_,rfl⟩;rw[<-hS]at HE hmeas hJ2 hSR hSL hpiv hJB;rw[<-hS];clear hS TAIL
     (repeat(first|refine gk fun K hK=>?_|refine zs2 ?_));refine vn ?_;(repeat(first|refine gk fun K hK=>?_|refine zs2 ?_))
     refine az ?_
     (repeat(first|refine gk fun K hK=>?_|refine zs2 ?_));refine aX ?_;(repeat(first|refine gk fun K hK=>?_|refine zs2 ?_))
     (refine ak (ai (sl':=[(1,zI cN),(5, .own 19),(6,zI (r:Nat)),(7,zI (c:Nat)),(11,zI ((r+1:Nat):Int))]) (ow':=[(19,⟨113,1,S.map dZ⟩)]) an aw) ?_)
     refine aE (fun k s=>∃j,r+1<=j/\j<=i/\k=i-j/\s=⟨[(1,zI cN),(5, .own 19),(6,zI (r:Nat)),(7,zI (c:Nat)),(11,zI (j:Nat))],[(19,⟨113,1,(Mx.aI r c (r+1) S (j-(r+1))).map dZ⟩)]⟩) (m:=i-(r+1)) ⟨r+1,Nat.le_refl _,by omega,rfl,by rw[Nat.sub_self];rfl⟩ fun k s hs=>?_;obtain⟨j,hrj,hji,rfl,rfl⟩:=hs;by_cases hj:j<i
     ·have HNX : Mx.aI r c (r + 1) S (j + 1 - (r + 1)) = (Mx.aI r c (r + 1) S (j - (r + 1))).set j (Mx.cI (Mx.rw (Mx.aI r c (r + 1) S (j - (r + 1))) r) c (Mx.rw (Mx.aI r c (r + 1) S (j - (r + 1))) j)) := by
       rw[show j+1-(r+1)=(j-(r+1))+1 by omega,Mx.iM (by omega) (by rw[hSL];omega),show r+1+(j-(r+1))=j by omega]
      have hpn:Mx.at' (Mx.aI r c (r+1) S (j-(r+1))) r c≠0:=by
       unfold Mx.at';rw[Mx.cJ r c (r+1) S (j-(r+1)) (by rw[hSL];omega) r,if_neg (by omega)];exact hpiv
      have hBN:=(hJB (j-(r+1)) (by omega)).mono hKE;have hRN:Mx.Rc n (Mx.aI r c (r+1) S (j-(r+1))):=Mx.jj hSR (by omega) _ (by omega);have hLN:(Mx.aI r c (r+1) S (j-(r+1))).length=i:=by rw[Mx.ck];exact hSL
      obtain⟨A,hA⟩:∃A,A=Mx.aI r c (r+1) S (j-(r+1)):=⟨_,rfl⟩;rw[<-hA]at HNX hpn hBN hRN hLN;rw[<-hA];clear hA hJB hJ2 hmeas HE;have hgj:=du (M:=A) (i:=j) (by omega);have hgr:=du (M:=A) (i:=r) (by omega);have hxj:=jF hRN (show j<A.length by omega) hcn;have hxr:=jF hRN (show r<A.length by omega) hcn;have DM:=qZ (Mx.at' A j c) (Mx.at' A r c) (bf (hBN j c) (by omega)) (bf (hBN r c) (by omega)) hpn;have TK:=wb (c:=c) hRN (show j<A.length by omega) (show r<A.length by omega) hn hBN hEf;have hjj:(j:Int)=((j:Nat):Int):=rfl
      (repeat(first|refine gk fun K hK=>?_|refine zs2 ?_));refine aK ?_;(repeat(first|refine gk fun K hK=>?_|refine zs2 ?_))
      refine av ?_
      (repeat(first|refine gk fun K hK=>?_|refine zs2 ?_));((refine xX [12,13] aa zb21 ?_);refine bG ?_;refine bG ?_;refine dz ?_;refine ct ?_;refine bG ?_;refine dz ?_;refine ct ?_;refine bG ?_;refine bG ?_;refine dz ?_;refine ct ?_;refine bG ?_;refine dz ?_;refine ct ?_;refine vu ?_;refine bG ?_;refine lf ?_;refine lf ?_;refine lf ?_;(refine qg (k:=12) (z:=(.agg #[.bool false, .slice none 0 0])) (d:=(.nm 0)) rfl rfl rfl rfl rfl aa ae ae cE ae ae ?_);(refine qg (k:=13) (z:=(.agg #[.bool false, .slice none 0 0])) (d:=(.nm 0)) rfl rfl rfl rfl rfl aa ae ae cE ae ae ?_);refine mS ?_;refine mS ?_;refine AA ?_;refine mR ?_);(repeat(first|refine gk fun K hK=>?_|refine zs2 ?_))
      (refine ak (ai (sl':=[(1,zI cN),(5, .own 19),(6,zI (r:Nat)),(7,zI (c:Nat)),(11,zI (j:Nat)),(12, .opt 12 0)]) (ow':=[(12,⟨62,2,[.nm (Mx.at' A j c/Mx.at' A r c)]⟩),(19,⟨113,1,A.map dZ⟩)]) an aw) ?_)
      (repeat(first|refine gk fun K hK=>?_|refine zs2 ?_));refine GN ?_;(repeat(first|refine gk fun K hK=>?_|refine zs2 ?_));refine aX ?_;(repeat(first|refine gk fun K hK=>?_|refine zs2 ?_))
      simp only[nx,inB];exact⟨i-(j+1),_,by omega,(ai (sl':=[(1,zI cN),(5, .own 19),(6,zI (r:Nat)),(7,zI (c:Nat)),(11,zI ((j+1:Nat):Int))]) (ow':=[(19,⟨113,1,(A.map dZ).set j (dZ (Mx.cI (Mx.rw A r) c (Mx.rw A j)))⟩)]) an aw),j+1,by omega,by omega,rfl,by rw[HNX,List.map_set]⟩
     ·obtain rfl:j=i:=by omega
      have hLN:(Mx.aI r c (r+1) S (j-(r+1))).length=j:=by rw[Mx.ck];exact hSL
      (repeat(first|refine gk fun K hK=>?_|refine zs2 ?_));refine aK ?_;(repeat(first|refine gk fun K hK=>?_|refine zs2 ?_))
      refine az ?_
      (repeat(first|refine gk fun K hK=>?_|refine zs2 ?_))
      simp only[nx,inB];exact⟨_,_,hmeas,(ai (sl':=[(1,zI cN),(5, .own 19),(6,zI (r:Nat)),(7,zI (c:Nat))]) (ow':=[(19,⟨113,1,(Mx.aI r c (r+1) S (j-(r+1))).map dZ⟩)]) an aw),_,rfl,Mx.jj hSR (by omega) (j-(r+1)) (by omega),by rw[Mx.ck];exact hSL,hJ2,HE,rfl⟩
 ·have eT : T.2 = M := by
   by_cases h1:c<cN
   ·rw[Mx.nr (by omega)]at hT;rw[<-hT]
   ·rw[show cN-c=0 by omega]at hT;rw[<-hT];rfl
  by_cases h1:c<cN
  ·have hd1:decide ((c:Int)<(cN:Int))=true:=decide_eq_true (by omega)
   (repeat(first|refine gk fun K hK=>?_|refine zs2 ?_));refine Ag ?_;(repeat(first|refine gk fun K hK=>?_|refine zs2 ?_))
   refine az ?_
   (repeat(first|refine gk fun K hK=>?_|refine zs2 ?_))
   refine ak (aF (k:=19) aZ bB bA) ?_;refine fC ?_
   (repeat(first|refine gk fun K hK=>?_|refine zs2 ?_))
   rw[eT];exact⟨_,Sh.refl, .one (.tmp 4) _ rfl (.tmp 4 rfl)⟩
  ·have hd1:decide ((c:Int)<(cN:Int))=false:=decide_eq_false (by omega)
   (repeat(first|refine gk fun K hK=>?_|refine zs2 ?_));refine Ag ?_;(repeat(first|refine gk fun K hK=>?_|refine zs2 ?_))
   refine az ?_
   (repeat(first|refine gk fun K hK=>?_|refine zs2 ?_))
   refine ak (aF (k:=19) aZ bB bA) ?_;refine fC ?_
   (repeat(first|refine gk fun K hK=>?_|refine zs2 ?_))
   rw[eT];exact⟨_,Sh.refl, .one (.tmp 4) _ rfl (.tmp 4 rfl)⟩
end DW
end
end Go.Proofs.YtcgjmdpcplhanaaGreat
