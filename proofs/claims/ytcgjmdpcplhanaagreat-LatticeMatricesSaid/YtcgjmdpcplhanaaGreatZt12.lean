/- Lemmas for the law: E42 -/
import Derived.Test.YtcgjmdpcplhanaaGreatZt11
namespace Go.Proofs.YtcgjmdpcplhanaaGreat
section
theorem Ct{p q:Prop}(h:q)(f:Wq q->p:=by(intro hW;((refine gar ?_;refine zs4 ?_;refine cw ?_;refine zs4 ?_;refine zs5 ?_;refine mu ?_;refine af ?_));exact hW.out)):p:=f ⟨h⟩
theorem C3{p q:Prop}(h:q)(f:Wq q->p:=by(intro hW;((first|refine cr rfl rfl rfl aa zb5 aa aa ?_|((try refine av ?_);refine aL1 rfl rfl rfl zb5 ?_)));exact hW.out)):p:=f ⟨h⟩
theorem sW{p q:Prop}(h:q)(f:Wq q->p:=by(intro hW;((refine gar ?_;refine zs4 ?_;refine cw ?_;refine zs85 ?_;refine af ?_));exact hW.out)):p:=f ⟨h⟩
theorem wV{p q:Prop}(h:q)(f:Wq q->p:=by(intro hW;((refine gar ?_;refine zs4 ?_;refine cw ?_;refine zs4 ?_;refine qG ?_;refine qG ?_;refine zs6 ?_;refine zs6 ?_;refine af ?_));exact hW.out)):p:=f ⟨h⟩
theorem Cs{p q:Prop}(h:q)(f:Wq q->p:=by(intro hW;((refine gar ?_;refine zs4 ?_;refine zs43 ?_;refine zs4 ?_;refine zs8 ?_;refine zs8 ?_;refine zs84 ?_;refine C4 ?_;refine kY ?_;refine af ?_));exact hW.out)):p:=f ⟨h⟩
theorem C1{p q:Prop}(h:q)(f:Wq q->p:=by(intro hW;((first|(refine aLs rfl rfl rfl rfl ?_ ?_;(focus(apply aQ;(conv=>lhs;whnf);(first|done|exact rfl|(apply aI;(first|(apply decide_eq_true;omega)|(apply decide_eq_false;omega)|assumption|(simp;done)))))))|refine aLw rfl rfl rfl rfl bI zb31 ?_));exact hW.out)):p:=f ⟨h⟩
theorem Cr{p q:Prop}(h:q)(f:Wq q->p:=by(intro hW;((refine gar ?_;refine zs4 ?_;refine zs5 ?_;refine zs4 ?_;refine cw ?_;refine mu ?_;refine af ?_));exact hW.out)):p:=f ⟨h⟩
theorem wW{p q:Prop}(h:q)(f:Wq q->p:=by(intro hW;((refine gar ?_;refine zs4 ?_;refine cw ?_;refine zs4 ?_;refine qG ?_;refine qG ?_;refine C7 ?_;refine fX ?_;refine zs6 ?_;refine af ?_));exact hW.out)):p:=f ⟨h⟩
theorem xA{p:Prop}(h:p:=by(apply Fl;(exact rfl);(assumption);(exact rfl))):p:=h
theorem CX{p q:Prop}(h:q)(f:Wq q->p:=by(intro hW;((first|(refine aLs rfl rfl rfl rfl ?_ ?_;(focus(apply aQ;(conv=>lhs;whnf);(first|done|exact rfl|(apply aI;(first|(apply decide_eq_true;omega)|(apply decide_eq_false;omega)|assumption|(simp;done)))))))|refine aLw rfl rfl rfl rfl bI xA ?_));exact hW.out)):p:=f ⟨h⟩
theorem CY{p q:Prop}(h:q)(f:Wq q->p:=by(intro hW;((first|(refine aLs rfl rfl rfl rfl ?_ ?_;(focus(apply aQ;(conv=>lhs;whnf);(first|done|exact rfl|(apply aI;(first|(apply decide_eq_true;omega)|(apply decide_eq_false;omega)|assumption|(simp;done)))))))|refine aLw rfl rfl rfl rfl bI mD ?_));exact hW.out)):p:=f ⟨h⟩
theorem wX{p q:Prop}(h:q)(f:Wq q->p:=by(intro hW;((refine gar ?_;refine tI ?_;refine gP ?_;refine af ?_));exact hW.out)):p:=f ⟨h⟩
theorem wU{p q:Prop}(h:q)(f:Wq q->p:=by(intro hW;((refine gar ?_;refine zs4 ?_;refine cw ?_;refine zs4 ?_;refine mu ?_;refine af ?_));exact hW.out)):p:=f ⟨h⟩
end
section
open Go.RowKit
namespace DW
theorem FB{X:Nat->Prop}{w:World}{M:Mx.Mat}{v:Value}{n:Nat}(h:AR X w (dW M) v)(hr:Mx.Rc n M)(hn:0<n\/M=[]):MR w v n M:=by
 by_cases h0:0<n
 ·exact G5 h hr h0
 ·have hM:=hn.resolve_left h0;subst hM;simp only[dW,AR]at h;obtain⟨a,c,rfl,h2,_⟩:=h;exact⟨a,c,rfl,h2,hr,.inl rfl⟩
theorem F9(M:Mx.Mat)(n e:Nat)(hl:M.length=n)(hR:Mx.Rc n M)(hn:n<=1000)(he:2^n*(e+1)<=6000000000000)(hb:Mx.Bd (2^e) M):Fn Tryz.prog 96 [dW M] (.nm (Mx.D n (Mx.at' M))):=by
 refine⟨enters_of Tryz.func96 ae rfl,fun X w vs hX hv=>?_⟩;simp only[ATp]at hv;obtain⟨v1,r1,e1,h1,rfl⟩:=hv;have:vs= #[v1]:=Array.toList_inj.1 e1;subst this;rw[<-Mx.G4 hl hR];refine(Fk M n e v1 hl hn he hb w (FB h1 hR ?_)).mono fun e w' ⟨⟨z,h3,h4⟩,h5⟩=>⟨_,h3,by simp only[AR];exact⟨z,rfl,h4⟩,h5⟩;by_cases h0:n=0
 ·exact .inr (List.eq_nil_of_length_eq_zero (by omega))
 ·exact .inl (by omega)
theorem Al(z:Int)(fz:Fit z):Fn Tryz.prog 112 [.nm z] (.nm z):=by
 refine⟨enters_of Tryz.func112 ae rfl,fun X w vs hX hv=>?_⟩;simp only[ATp,AR]at hv;obtain⟨v1,r1,e1,⟨x,rfl,hx⟩,rfl⟩:=hv;have:vs= #[.agg #[.bool x.s,.slice x.a x.n x.cap]]:=Array.toList_inj.1 e1;subst this;obtain⟨l,h1,rfl⟩:=hx.ip;exact(lI x l (by have:=cU h1.nf fz;omega) w h1).mono fun e w' ⟨⟨y,h2,h3⟩,h4⟩=>⟨_,h2,by simp only[AR];exact⟨y,rfl,h3⟩,h4⟩
set_option maxRecDepth 20000
set_option maxHeartbeats 2000000
theorem Gu(m:Mx.Mat)(C:Int)(hC:C≠0)(CM:Fn Tryz.prog 40 [dM m] (zI C)):Fn Tryz.prog 39 [dM m] (.tp [.nm 0,zI C]):=by
 refine aY Tryz.func39 ae rfl rfl rfl fun X0=>?_;simp only[aK]
 (repeat(first|refine gk fun K hK=>?_|refine zs2 ?_));refine wX ?_;(repeat(first|refine gk fun K hK=>?_|refine zs2 ?_));refine im ?_;(repeat(first|refine gk fun K hK=>?_|refine zs2 ?_));refine il ?_;(repeat(first|refine gk fun K hK=>?_|refine zs2 ?_))
 refine aA ?_
 (repeat(first|refine gk fun K hK=>?_|refine zs2 ?_));(refine gar ?_;refine xt ?_;refine zs4 ?_;refine fX ?_;refine zs6 ?_;refine af ?_);(repeat(first|refine gk fun K hK=>?_|refine zs2 ?_))
 exact⟨_,aE (k:=2) aR bz bw,.two (.cell 2 62) (.tmp 3) _ _ rfl (.cell 2 _ _ rfl rfl ae ae) (.tmp 3 rfl)⟩
theorem Gs(m:Mx.Mat)(hm:m.length<=1000000000)(CM:Fn Tryz.prog 40 [dM m] (zI 0))(h:wid m≠m.length):Fn Tryz.prog 39 [dM m] (.tp [.nm 0,zI 9]):=by
 have WI:=vL m hm;refine aY Tryz.func39 ae rfl rfl rfl fun X0=>?_;simp only[aK]
 (repeat(first|refine gk fun K hK=>?_|refine zs2 ?_));refine wX ?_;(repeat(first|refine gk fun K hK=>?_|refine zs2 ?_));refine im ?_;(repeat(first|refine gk fun K hK=>?_|refine zs2 ?_));refine il ?_;(repeat(first|refine gk fun K hK=>?_|refine zs2 ?_))
 refine aB ?_
 (repeat(first|refine gk fun K hK=>?_|refine zs2 ?_));refine Ct ?_;(repeat(first|refine gk fun K hK=>?_|refine zs2 ?_))
 refine aA ?_
 (repeat(first|refine gk fun K hK=>?_|refine zs2 ?_));(refine gar ?_;refine xt ?_;refine fX ?_;refine gP ?_;refine af ?_);(repeat(first|refine gk fun K hK=>?_|refine zs2 ?_))
 exact⟨_,aE (k:=2) aR bz bw,.two (.cell 2 62) (.tmp 3) _ _ rfl (.cell 2 _ _ rfl rfl ae ae) (.tmp 3 rfl)⟩
theorem Gt(m:Mx.Mat)(d:Int)(hm:m.length<=1000000000)(CM:Fn Tryz.prog 40 [dM m] (zI 0))(h:wid m=m.length)(WO:Fn Tryz.prog 72 [dM m] (dW m))(DE:Fn Tryz.prog 96 [dW m] (.nm d))(NO:Fn Tryz.prog 112 [.nm d] (.nm d)):Fn Tryz.prog 39 [dM m] (.tp [.nm d,zI 0]):=by
 have WI:=vL m hm;refine aY Tryz.func39 ae rfl rfl rfl fun X0=>?_;simp only[aK]
 (repeat(first|refine gk fun K hK=>?_|refine zs2 ?_));refine wX ?_;(repeat(first|refine gk fun K hK=>?_|refine zs2 ?_));refine im ?_;(repeat(first|refine gk fun K hK=>?_|refine zs2 ?_));refine il ?_;(repeat(first|refine gk fun K hK=>?_|refine zs2 ?_))
 refine aB ?_
 (repeat(first|refine gk fun K hK=>?_|refine zs2 ?_));refine Ct ?_;(repeat(first|refine gk fun K hK=>?_|refine zs2 ?_))
 refine aB ?_
 (repeat(first|refine gk fun K hK=>?_|refine zs2 ?_));(refine gar ?_;refine zs4 ?_;refine cw ?_;refine cw ?_;refine cw ?_;refine fX ?_;refine gP ?_;refine af ?_);(repeat(first|refine gk fun K hK=>?_|refine zs2 ?_))
 exact⟨_,aE (k:=2) aR bz bw,.two (.cell 2 62) (.tmp 3) _ _ rfl (.cell 2 _ _ rfl rfl ae ae) (.tmp 3 rfl)⟩
theorem sV(m:List (List Int)):Fn Tryz.prog 7 [dM m] (.sc (.bool true)):=by
 have SM:=Bm m;have AW:=Fz;have SZ:=zD 0 0 (by rw[show wds (0:Int).natAbs=[]from Dg.oU _];simp);rw[decide_eq_true rfl]at SZ;by_cases hs:smL m=true
 ·rw[hs]at SM;obtain⟨b1,b2⟩:=El hs;have CK:=Fp m (by omega);have CM:=Gv m (by omega) (fun r hr=>by have:=b2 r hr;omega);have RK:=ES m (by omega) (fun r hr=>by have:=b2 r hr;omega) (fun hc=>by have:=uf hs hc;omega);by_cases hc:chk m=0
  ·obtain⟨b3,b4⟩:=uf hs hc;obtain⟨k1,k2,k3,k4⟩:=gJ hc;have RR:=Gl m hc b4 b3;have hlr:lrk m=((HT m).1:Nat):=if_pos hc;have hfl:(fil (rHM m)).length=(HT m).1:=by
    have e:=Mx.wa k3;show(fil (Mx.red (wid m) 0 (0,m)).2).length=_;rw[Mx.EZ k3];unfold nH;rw[e,List.length_take];have:=HT_le k3;have hl:=(Mx.jo (wid m) 0 (0,m) k3).len;rw[e]at hl;have hl':(nU m).length=m.length:=hl;show min (HT m).1 (nU m).length=_;omega
   rw[hlr,hc]at RK;rw[hfl]at RR;rw[hc]at CK CM;have CO:=na m;clear hlr hfl;generalize(HT m).1=r at*;by_cases hw:wid m=m.length
   ·have hb:Mx.Bd (2^50) m:=qo hc;have hin:∀l∈m,∀z∈l,I64 z:=fun l hl z hz=>by
     have:=k4 l hl z hz;unfold I64;omega
    have WO:=wof_d m (wid m) (by omega) (by omega) k3 hin;have WD:=yY m (by omega) (fun l hl=>by have:=k3 l hl;omega) (fun l hl z hz=>hin l hl z hz);have h25:2^m.length<=2^5:=Nat.pow_le_pow_right (by omega) b3;rw[hw]at k3;have DE:=F9 m m.length 50 rfl k3 (by omega) (Nat.le_trans (Nat.mul_le_mul_right (50+1) h25) (by omega)) hb;have hm5:(50+m.length)*m.length<=55*5:=Nat.mul_le_mul (by omega) b3;have DR:=Dv 50 m.length m rfl k3 hb (by omega) (by omega);have hdb:=DW.yN (e:=50) m.length (Mx.at' m) fun i j _ _=>hb i j;generalize Mx.D m.length (Mx.at' m)=d at*;have NO:=Al d (bc hdb (by omega));have PD:=Gt m d (by omega) CM hw WO DE NO;have SD:=zD d d (by have:=nL hdb (by omega);have h2:=vO d.natAbs;omega);rw[decide_eq_true rfl]at SD;clear hdb hm5 h25 hb hin b2 k1 k2 k3 k4 b3 b4;refine aY Tryz.func7 ae rfl rfl rfl fun X0=>?_;simp only[aK]
    (repeat(first|refine gk fun K hK=>?_|refine zs2 ?_));refine bZ ?_;(repeat(first|refine gk fun K hK=>?_|refine zs2 ?_));refine sW ?_;(repeat(first|refine gk fun K hK=>?_|refine zs2 ?_))
    refine aB ?_
    (repeat(first|refine gk fun K hK=>?_|refine zs2 ?_));refine wW ?_;(repeat(first|refine gk fun K hK=>?_|refine zs2 ?_));refine wV ?_;(repeat(first|refine gk fun K hK=>?_|refine zs2 ?_));refine im ?_;(repeat(first|refine gk fun K hK=>?_|refine zs2 ?_));refine wU ?_;(repeat(first|refine gk fun K hK=>?_|refine zs2 ?_))
    refine aB ?_
    (repeat(first|refine gk fun K hK=>?_|refine zs2 ?_));refine il ?_;(repeat(first|refine gk fun K hK=>?_|refine zs2 ?_))
    refine aB ?_
    (repeat(first|refine gk fun K hK=>?_|refine zs2 ?_));refine Cs ?_;(repeat(first|refine gk fun K hK=>?_|refine zs2 ?_))
    refine aB ?_
    (repeat(first|refine gk fun K hK=>?_|refine zs2 ?_));refine Cr ?_;(repeat(first|refine gk fun K hK=>?_|refine zs2 ?_))
    refine aB ?_
    (repeat(first|refine gk fun K hK=>?_|refine zs2 ?_));(((first|(apply ah 12;(focus kernel_rfl);(decide+kernel))|(apply ah 11;(focus kernel_rfl);(decide+kernel))|(apply ah 10;(focus kernel_rfl);(decide+kernel))|(apply ah 9;(focus kernel_rfl);(decide+kernel))|(apply ah 8;(focus kernel_rfl);(decide+kernel))|(apply ah 7;(focus kernel_rfl);(decide+kernel))|(apply ah 6;(focus kernel_rfl);(decide+kernel))|(apply ah 5;(focus kernel_rfl);(decide+kernel)));simp only[List.take_succ_cons,List.take_zero,List.drop_succ_cons,List.drop_zero]);refine aZ ?_;(first|refine cr rfl rfl rfl aa xC aa aa ?_|((try refine av ?_);refine aL1 rfl rfl rfl xC ?_));refine aZ ?_;refine kW ?_;refine gO ?_;refine tg ?_;refine tg ?_;refine Da ?_;refine C3 ?_;refine aZ ?_;(first|(first|(refine aHs rfl rfl rfl rfl rfl ?_ ?_;(focus(apply aQ;(conv=>lhs;whnf);(first|done|exact rfl|(apply aI;(first|(apply decide_eq_true;omega)|(apply decide_eq_false;omega)|assumption|(simp;done)))))))|refine mj rfl rfl rfl rfl rfl bI aa xA aa aa ?_)|((try refine av ?_);(first|(refine aLs rfl rfl rfl rfl ?_ ?_;(focus(apply aQ;(conv=>lhs;whnf);(first|done|exact rfl|(apply aI;(first|(apply decide_eq_true;omega)|(apply decide_eq_false;omega)|assumption|(simp;done)))))))|refine aLw rfl rfl rfl rfl bI xA ?_)));refine C3 ?_;refine oh ?_;refine eA ?_);(repeat(first|refine gk fun K hK=>?_|refine zs2 ?_))
    exact⟨_,Sh.refl,.one (.tmp 2) _ rfl (.tmp 2 rfl)⟩
   ·have PD:=Gs m (by omega) CM hw;clear b2 k1 k2 k3 k4 b3 b4;refine aY Tryz.func7 ae rfl rfl rfl fun X0=>?_;simp only[aK]
    (repeat(first|refine gk fun K hK=>?_|refine zs2 ?_));refine bZ ?_;(repeat(first|refine gk fun K hK=>?_|refine zs2 ?_));refine sW ?_;(repeat(first|refine gk fun K hK=>?_|refine zs2 ?_))
    refine aB ?_
    (repeat(first|refine gk fun K hK=>?_|refine zs2 ?_));refine wW ?_;(repeat(first|refine gk fun K hK=>?_|refine zs2 ?_));refine wV ?_;(repeat(first|refine gk fun K hK=>?_|refine zs2 ?_));refine im ?_;(repeat(first|refine gk fun K hK=>?_|refine zs2 ?_));refine wU ?_;(repeat(first|refine gk fun K hK=>?_|refine zs2 ?_))
    refine aB ?_
    (repeat(first|refine gk fun K hK=>?_|refine zs2 ?_));refine il ?_;(repeat(first|refine gk fun K hK=>?_|refine zs2 ?_))
    refine aB ?_
    (repeat(first|refine gk fun K hK=>?_|refine zs2 ?_));refine Cs ?_;(repeat(first|refine gk fun K hK=>?_|refine zs2 ?_))
    refine aB ?_
    (repeat(first|refine gk fun K hK=>?_|refine zs2 ?_));refine Cr ?_;(repeat(first|refine gk fun K hK=>?_|refine zs2 ?_))
    refine aA ?_
    (repeat(first|refine gk fun K hK=>?_|refine zs2 ?_));(refine gar ?_;refine zs4 ?_;refine mA ?_;refine zs4 ?_;refine lj ?_;refine C1 ?_;refine CY ?_;refine gg ?_;refine zs4 ?_;refine CX ?_;refine gg ?_;refine zs6 ?_;refine af ?_);(repeat(first|refine gk fun K hK=>?_|refine zs2 ?_))
    exact⟨_,Sh.refl,.one (.tmp 2) _ rfl (.tmp 2 rfl)⟩
  ·have hlr:lrk m=0:=if_neg hc;rw[hlr]at RK;have PD:=Gu m _ hc CM;clear b2 hlr;generalize chk m=C at*;refine aY Tryz.func7 ae rfl rfl rfl fun X0=>?_;simp only[aK]
   (repeat(first|refine gk fun K hK=>?_|refine zs2 ?_));refine bZ ?_;(repeat(first|refine gk fun K hK=>?_|refine zs2 ?_));refine sW ?_;(repeat(first|refine gk fun K hK=>?_|refine zs2 ?_))
   refine aB ?_
   (repeat(first|refine gk fun K hK=>?_|refine zs2 ?_));refine wW ?_;(repeat(first|refine gk fun K hK=>?_|refine zs2 ?_));refine wV ?_;(repeat(first|refine gk fun K hK=>?_|refine zs2 ?_));refine im ?_;(repeat(first|refine gk fun K hK=>?_|refine zs2 ?_));refine wU ?_;(repeat(first|refine gk fun K hK=>?_|refine zs2 ?_))
   refine aB ?_
   (repeat(first|refine gk fun K hK=>?_|refine zs2 ?_));refine il ?_;(repeat(first|refine gk fun K hK=>?_|refine zs2 ?_))
   refine aA ?_
   (repeat(first|refine gk fun K hK=>?_|refine zs2 ?_));(refine gar ?_;refine zs4 ?_;refine zs4 ?_;refine wP ?_;refine zs4 ?_;refine zs8 ?_;refine zs8 ?_;(first|(refine aLs rfl rfl rfl rfl ?_ ?_;(focus(apply aQ;(conv=>lhs;whnf);(first|done|exact rfl|(apply aI;(first|(apply decide_eq_true;omega)|(apply decide_eq_false;omega)|assumption|(simp;done)))))))|refine aLw rfl rfl rfl rfl bI zb13 ?_);refine gg ?_;refine zs4 ?_;refine lj ?_;refine C1 ?_;refine CY ?_;refine gg ?_;refine zs4 ?_;refine zs8 ?_;refine xq ?_;refine gg ?_;refine zs4 ?_;refine CX ?_;refine gg ?_;refine zs6 ?_;refine af ?_);(repeat(first|refine gk fun K hK=>?_|refine zs2 ?_))
   exact⟨_,Sh.refl,.one (.tmp 2) _ rfl (.tmp 2 rfl)⟩
 ·have hs':smL m=false:=by simpa using hs
  rw[hs']at SM;refine aY Tryz.func7 ae rfl rfl rfl fun X0=>?_;simp only[aK]
  (repeat(first|refine gk fun K hK=>?_|refine zs2 ?_));refine bZ ?_;(repeat(first|refine gk fun K hK=>?_|refine zs2 ?_));refine sW ?_;(repeat(first|refine gk fun K hK=>?_|refine zs2 ?_))
  refine aA ?_
  (repeat(first|refine gk fun K hK=>?_|refine zs2 ?_));(refine gar ?_;(refine aL1 rfl rfl rfl xA ?_);refine zs6 ?_;refine af ?_);(repeat(first|refine gk fun K hK=>?_|refine zs2 ?_))
  exact⟨_,Sh.refl,.one (.tmp 2) _ rfl (.tmp 2 rfl)⟩
end DW
theorem uI(v:Value)(m:List (List Int))(w:World)(h:DW.AR (fun _=>False) w (DW.dM m) v):Calls Tryz.prog 7 #[v] w fun e w'=>e= .returned (.bool true)/\Below w.heap.size w w':=by
 refine((DW.sV m).2 (fun _=>False) w #[v] (fun _ h=>h.elim) (by simp only[DW.ATp];exact⟨v,[],rfl,h,rfl⟩)).mono fun e w' ⟨u,h1,h2,h3⟩=>⟨?_,h3⟩;simp only[DW.AR]at h2;rw[h1,h2.1]
end
end Go.Proofs.YtcgjmdpcplhanaaGreat
