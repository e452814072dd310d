/- Lemmas for the law: E24 E56 E40 E57 -/
import Derived.Test.YtcgjmdpcplhanaaGreatZh14
namespace Go.Proofs.YtcgjmdpcplhanaaGreat
section
theorem rh{p q:Prop}(h:q)(f:Wq q->p:=by(intro hW;((refine gar ?_;refine gU ?_;refine qn ?_;refine af ?_));exact hW.out)):p:=f ⟨h⟩
theorem rf{p q:Prop}(h:q)(f:Wq q->p:=by(intro hW;((refine gar ?_;refine zs4 ?_;refine cZ ?_;refine qm ?_;refine af ?_));exact hW.out)):p:=f ⟨h⟩
theorem GA{p q:Prop}(h:q)(f:Wq q->p:=by(intro hW;((first|(refine aLs rfl rfl rfl rfl ?_ ?_;(focus(apply aY;(conv=>lhs;whnf);(first|done|exact rfl|(apply aK;(first|(apply decide_eq_true;omega)|(apply decide_eq_false;omega)|assumption|(simp;done)))))))|refine aLw rfl rfl rfl rfl bK tz ?_));exact hW.out)):p:=f ⟨h⟩
theorem F6{p q:Prop}(h:q)(f:Wq q->p:=by(intro hW;((refine zs56 ?_;refine bp ?_;refine GL ?_;refine gT ?_;refine aQ ?_;refine lT ?_;refine zs83 ?_;refine zs84 ?_;refine zu ?_;refine mX ?_;refine di ?_));exact hW.out)):p:=f ⟨h⟩
theorem vK{p:Prop}(h:p:=by show 3<=Tryz.f3.ntmps;decide+kernel):p:=h
theorem zb58{p:Prop}(h:p:=by(apply Ja;(exact rfl);(assumption);(exact rfl))):p:=h
theorem zs130{p q:Prop}(h:q)(f:Wq q->p:=by(intro hW;(refine aL1 rfl rfl rfl zb58 ?_);exact hW.out)):p:=f ⟨h⟩
theorem vd{p q:Prop}(h:q)(f:Wq q->p:=by(intro hW;((refine gar ?_;refine zs130 ?_;refine zs6 ?_;refine af ?_));exact hW.out)):p:=f ⟨h⟩
theorem GB{p q:Prop}(h:q)(f:Wq q->p:=by(intro hW;((refine kE (k:=7) (z:=(.agg #[.bool false,.slice none 0 0])) (d:=(.nm 0)) rfl rfl rfl rfl rfl ae aa aa dL aa aa bZ ?_));exact hW.out)):p:=f ⟨h⟩
theorem zF{p q:Prop}(h:q)(f:Wq q->p:=by(intro hW;((refine gar ?_;refine zs4 ?_;refine cZ ?_;refine zs4 ?_;refine ir ?_;refine ir ?_;refine zs6 ?_;refine zs6 ?_;refine af ?_));exact hW.out)):p:=f ⟨h⟩
theorem Ab{p q:Prop}(h:q)(f:Wq q->p:=by(intro hW;((first|(refine aLs rfl rfl rfl rfl ?_ ?_;(focus(apply aY;(conv=>lhs;whnf);(first|done|exact rfl|(apply aK;(first|(apply decide_eq_true;omega)|(apply decide_eq_false;omega)|assumption|(simp;done)))))))|refine aLw rfl rfl rfl rfl bK zb58 ?_));exact hW.out)):p:=f ⟨h⟩
theorem F7{p q:Prop}(h:q)(f:Wq q->p:=by(intro hW;((refine gar ?_;refine zs4 ?_;refine zs4 ?_;refine dh ?_;refine br ?_;refine zs4 ?_;refine dh ?_;refine zs22 ?_;refine br ?_;refine zs5 ?_;refine zs7 ?_;refine af ?_));exact hW.out)):p:=f ⟨h⟩
theorem zs127{p q:Prop}(h:q)(f:Wq q->p:=by(intro hW;((refine xK rfl rfl rfl rfl bq aa aa LH ?_));exact hW.out)):p:=f ⟨h⟩
theorem ph{p q:Prop}(h:q)(f:Wq q->p:=by(intro hW;((refine gar ?_;refine zs4 ?_;refine zs127 ?_;refine zs4 ?_;refine ir ?_;refine ir ?_;refine ir ?_;refine zs6 ?_;refine zs6 ?_;refine zs6 ?_;refine af ?_));exact hW.out)):p:=f ⟨h⟩
end
section
open Go.RowKit
namespace DW
set_option maxRecDepth 20000
set_option maxHeartbeats 2000000
theorem Et(M:Mx.Mat)(n e:Nat)(hl:M.length=n)(hM:Mx.Rc n M)(hb:Mx.Bd (2^e) M)(hn:n<=1000)(he:(e+n)*n+e<=3000000000)(hdet:Mx.D n (Mx.at' M)=1\/Mx.D n (Mx.at' M)= -1):
  Fn Tryz.prog 20 [dW M,zI n] (.sc (.bool true)):=by
 have SQ:=EM M n (by omega);have hsq:decide (M.length=n/\∀l∈M,l.length=n)=true:=decide_eq_true ⟨hl,hM⟩;rw[hsq]at SQ;have DT:=G8 e n M hl hM hb hn he;have O1:=qH 1 (by omega);have O2:=qH (-1) (by omega);have hE:∀i k,i<n->k<n->(Mx.rw M i)[k]?=some (Mx.at' M i k):=fun i k hi hk=>iW hM (by omega) hk;have hRw:∀i,i<n->M[i]?=some (Mx.rw M i):=fun i hi=>eI (by omega);have hHf:∀i k,(hd (Mx.at' M i k).natAbs).length<=199999999:=fun i k=>jo (hb i k) (by omega);have hDb:(hd (Mx.D n (Mx.at' M)).natAbs).length<=199999999:=jo (e:=(e+n)*n) (BG n _ fun i j _ _=>hb i j) (by omega);have hDw:=pA (Mx.D n (Mx.at' M)).natAbs;obtain⟨Dm,hDm⟩:∃Dm,Dm=Mx.D n (Mx.at' M):=⟨_,rfl⟩;rw[<-hDm]at hdet hDb hDw DT;clear hDm hsq hb;refine bn Tryz.func20 ae rfl rfl rfl fun X0=>?_;simp only[aE]
 (repeat(first|refine gk fun K hK=>?_|refine zs2 ?_));refine bg ?_;(repeat(first|refine gk fun K hK=>?_|refine zs2 ?_));(refine gar ?_;refine zs4 ?_;refine zs4 ?_;refine jN ?_;refine qm ?_;refine af ?_);(repeat(first|refine gk fun K hK=>?_|refine zs2 ?_))
 refine az ?_
 (repeat(first|refine gk fun K hK=>?_|refine zs2 ?_));refine aS ?_;(repeat(first|refine gk fun K hK=>?_|refine zs2 ?_))
 (refine aq (aj (sl':=[(0,dW M),(1,zI n),(5,zI 0)]) (ow':=[]) au ay) ?_)
 refine aF (fun q s=>∃i,i<=n/\q=n-i/\s=⟨[(0,dW M),(1,zI n),(5,zI (i:Nat))],[]⟩) (m:=n) ⟨0,Nat.zero_le _,rfl,rfl⟩ fun q s hs=>?_;obtain⟨i,hi,rfl,rfl⟩:=hs;by_cases hin:i<n
 ·(repeat(first|refine gk fun K hK=>?_|refine zs2 ?_));refine eV ?_;(repeat(first|refine gk fun K hK=>?_|refine zs2 ?_))
  refine av ?_
  (repeat(first|refine gk fun K hK=>?_|refine zs2 ?_));refine aS ?_;(repeat(first|refine gk fun K hK=>?_|refine zs2 ?_))
  (refine aq (aj (sl':=[(0,dW M),(1,zI n),(5,zI (i:Nat)),(6,zI 0)]) (ow':=[]) au ay) ?_)
  refine aF (fun q s=>∃k,k<=n/\q=n-k/\s=⟨[(0,dW M),(1,zI n),(5,zI (i:Nat)),(6,zI (k:Nat))],[]⟩) (m:=n) ⟨0,Nat.zero_le _,rfl,rfl⟩ fun q s hs=>?_;obtain⟨k,hk,rfl,rfl⟩:=hs;by_cases hkn:k<n
  ·have hx:=hE i k hin hkn;have hr:=hRw i hin;have hh:=hHf i k;have hw:=pA (Mx.at' M i k).natAbs;obtain⟨X,hX⟩:∃X,X=Mx.at' M i k:=⟨_,rfl⟩;rw[<-hX]at hx hh hw;clear hX hE hRw hHf;have NO:=wC X (by unfold Hf;omega);have SA:=rQ X X (by omega);rw[show decide (X=X)=true from decide_eq_true rfl]at SA;by_cases h200:200<(wds X.natAbs).length
   ·(repeat(first|refine gk fun K hK=>?_|refine zs2 ?_));refine eV ?_;(repeat(first|refine gk fun K hK=>?_|refine zs2 ?_))
    refine av ?_
    (repeat(first|refine gk fun K hK=>?_|refine zs2 ?_));refine F7 ?_;(repeat(first|refine gk fun K hK=>?_|refine zs2 ?_))
    refine av ?_
    (repeat(first|refine gk fun K hK=>?_|refine zs2 ?_));refine bg ?_;(repeat(first|refine gk fun K hK=>?_|refine zs2 ?_))
    exact⟨_,Sh.refl,.one (.tmp 4) _ rfl (.tmp 4 rfl)⟩
   ·(repeat(first|refine gk fun K hK=>?_|refine zs2 ?_));refine eV ?_;(repeat(first|refine gk fun K hK=>?_|refine zs2 ?_))
    refine av ?_
    (repeat(first|refine gk fun K hK=>?_|refine zs2 ?_));refine F7 ?_;(repeat(first|refine gk fun K hK=>?_|refine zs2 ?_))
    refine az ?_
    (repeat(first|refine gk fun K hK=>?_|refine zs2 ?_));(refine zs25 ?_;refine aQ ?_;refine aQ ?_;refine cR ?_;refine bp ?_;refine aQ ?_;refine cR ?_;refine bp ?_;refine aQ ?_;refine aQ ?_;refine cR ?_;refine bp ?_;refine aQ ?_;refine cR ?_;refine bp ?_;refine od ?_;refine gT ?_;refine zs42 ?_;refine di ?_);(repeat(first|refine gk fun K hK=>?_|refine zs2 ?_))
    refine az ?_
    (repeat(first|refine gk fun K hK=>?_|refine zs2 ?_));refine aZ ?_;(repeat(first|refine gk fun K hK=>?_|refine zs2 ?_))
    simp only[nx,inB];exact⟨n-(k+1),_,by omega,(aj (sl':=[(0,dW M),(1,zI n),(5,zI (i:Nat)),(6,zI ((k+1:Nat):Int))]) (ow':=[]) au ay),k+1,by omega,rfl,rfl⟩
  ·obtain rfl:k=n:=by omega
   (repeat(first|refine gk fun K hK=>?_|refine zs2 ?_));refine eV ?_;(repeat(first|refine gk fun K hK=>?_|refine zs2 ?_))
   refine az ?_
   (repeat(first|refine gk fun K hK=>?_|refine zs2 ?_));refine aZ ?_;(repeat(first|refine gk fun K hK=>?_|refine zs2 ?_))
   simp only[nx,inB];exact⟨k-(i+1),_,by omega,(aj (sl':=[(0,dW M),(1,zI k),(5,zI ((i+1:Nat):Int))]) (ow':=[]) au ay),i+1,by omega,rfl,rfl⟩
 ·obtain rfl:i=n:=by omega
  have S1:=rQ Dm 1 (by omega);have S2:=rQ Dm (-1) (by omega);clear hE hRw hHf;by_cases h1:Dm=1
  ·rw[decide_eq_true h1]at S1
   (repeat(first|refine gk fun K hK=>?_|refine zs2 ?_));refine eV ?_;(repeat(first|refine gk fun K hK=>?_|refine zs2 ?_))
   refine az ?_
   (repeat(first|refine gk fun K hK=>?_|refine zs2 ?_));(refine gar ?_;refine zs4 ?_;refine cZ ?_;refine GB ?_;refine iy ?_;refine af ?_);(repeat(first|refine gk fun K hK=>?_|refine zs2 ?_));refine F6 ?_;(repeat(first|refine gk fun K hK=>?_|refine zs2 ?_))
   exact⟨_,Sh.refl,.one (.tmp 4) _ rfl (.tmp 4 rfl)⟩
  ·have h2:=hdet.resolve_left h1;rw[decide_eq_false h1]at S1;rw[decide_eq_true h2]at S2
   (repeat(first|refine gk fun K hK=>?_|refine zs2 ?_));refine eV ?_;(repeat(first|refine gk fun K hK=>?_|refine zs2 ?_))
   refine az ?_
   (repeat(first|refine gk fun K hK=>?_|refine zs2 ?_));(refine gar ?_;refine zs4 ?_;refine cZ ?_;refine GB ?_;refine iy ?_;refine af ?_);(repeat(first|refine gk fun K hK=>?_|refine zs2 ?_));refine F6 ?_;(repeat(first|refine gk fun K hK=>?_|refine zs2 ?_))
   exact⟨_,Sh.refl,.one (.tmp 4) _ rfl (.tmp 4 rfl)⟩
end DW
end
section
open Go.RowKit
namespace DW
abbrev dB(a b:Int):D:=.st [.sc (.int .u8 a),.sc (.int .u8 b)]
set_option maxRecDepth 20000
set_option maxHeartbeats 2000000
theorem wQ(m:List (List Int))(a b q:Int)(h:¬(smL m=true/\chk m=0/\(ba m).all (fun l=>l.all (inb 1000000000000000))=true))(w:World)(vs:Array Value)(hv:ATp NoX w [dM m,dB a b,.sc (.int .i8 q)] vs.toList):
  Calls Tryz.prog 3 vs w fun e w'=>∃u,e= .returned u/\AR NoX w' (.sc (.bool true)) u/\Below w.heap.size w w':=by
 have SM:=qy m;have AW:=uj;by_cases hs:smL m=true
 ·rw[hs]at SM;obtain⟨b1,b2⟩:=tI hs;have CK:=uh m (by omega);have LH:=kb m (by omega) (fun r hr=>by have:=b2 r hr;omega) (fun hc=>by have:=jg hs hc;omega);by_cases hc:chk m=0
  ·obtain⟨b3,b4⟩:=jg hs hc;have HR:=uP m hc b4 b3;have e1:rHM m=ba m:=by
    have:=Mx.pJ (eK hc).2.2.1;unfold rHM;rw[this]
   have hi:¬(ba m).all (fun l=>l.all (inb 1000000000000000))=true:=fun hi=>h ⟨hs,hc,hi⟩;rw[e1]at HR;unfold nrw at HR;unfold lhr at LH;rw[if_neg hi]at HR;rw[if_neg (fun h=>h hc),if_neg hi]at LH;rw[hc]at CK;clear h hi e1 b2;refine mL (X:=NoX) Tryz.func3 rfl vK rfl ?_ w vs (fun _ h=>h.elim) hv;simp only[aE]
   (repeat(first|refine gk fun K hK=>?_|refine zs2 ?_));refine rh ?_;(repeat(first|refine gk fun K hK=>?_|refine zs2 ?_));refine rf ?_;(repeat(first|refine gk fun K hK=>?_|refine zs2 ?_))
   refine az ?_
   (repeat(first|refine gk fun K hK=>?_|refine zs2 ?_));refine ph ?_;(repeat(first|refine gk fun K hK=>?_|refine zs2 ?_));refine lu ?_;(repeat(first|refine gk fun K hK=>?_|refine zs2 ?_));refine lp ?_;(repeat(first|refine gk fun K hK=>?_|refine zs2 ?_))
   refine az ?_
   (repeat(first|refine gk fun K hK=>?_|refine zs2 ?_));refine zF ?_;(repeat(first|refine gk fun K hK=>?_|refine zs2 ?_));refine ri ?_;(repeat(first|refine gk fun K hK=>?_|refine zs2 ?_))
   refine av ?_
   (repeat(first|refine gk fun K hK=>?_|refine zs2 ?_));(refine gar ?_;refine zs4 ?_;refine mW ?_;refine zs4 ?_;refine zs8 ?_;refine iw ?_;refine zs8 ?_;refine iw ?_;refine GA ?_;refine Ad ?_;refine iC ?_;refine zs4 ?_;refine Ab ?_;refine iC ?_;refine zs6 ?_;refine af ?_);(repeat(first|refine gk fun K hK=>?_|refine zs2 ?_))
   exact⟨_,Sh.refl,.one (.tmp 6) _ rfl (.tmp 6 rfl)⟩
  ·unfold lhr at LH;rw[if_pos hc]at LH;obtain⟨C,hC⟩:∃C,C=chk m:=⟨_,rfl⟩;rw[<-hC]at LH CK hc;clear hC h;refine mL (X:=NoX) Tryz.func3 rfl vK rfl ?_ w vs (fun _ h=>h.elim) hv;simp only[aE]
   (repeat(first|refine gk fun K hK=>?_|refine zs2 ?_));refine rh ?_;(repeat(first|refine gk fun K hK=>?_|refine zs2 ?_));refine rf ?_;(repeat(first|refine gk fun K hK=>?_|refine zs2 ?_))
   refine az ?_
   (repeat(first|refine gk fun K hK=>?_|refine zs2 ?_));refine ph ?_;(repeat(first|refine gk fun K hK=>?_|refine zs2 ?_));refine lu ?_;(repeat(first|refine gk fun K hK=>?_|refine zs2 ?_));refine lp ?_;(repeat(first|refine gk fun K hK=>?_|refine zs2 ?_))
   refine av ?_
   (repeat(first|refine gk fun K hK=>?_|refine zs2 ?_));(refine gar ?_;refine zs4 ?_;refine zs4 ?_;refine zw ?_;refine zs4 ?_;refine zs8 ?_;refine iw ?_;refine zs8 ?_;refine iw ?_;refine GA ?_;refine Ad ?_;refine iC ?_;refine zs4 ?_;refine Ab ?_;refine iC ?_;refine zs6 ?_;refine af ?_);(repeat(first|refine gk fun K hK=>?_|refine zs2 ?_))
   exact⟨_,Sh.refl,.one (.tmp 6) _ rfl (.tmp 6 rfl)⟩
 ·have hs':smL m=false:=by simpa using hs
  rw[hs']at SM;clear h;refine mL (X:=NoX) Tryz.func3 rfl vK rfl ?_ w vs (fun _ h=>h.elim) hv;simp only[aE]
  (repeat(first|refine gk fun K hK=>?_|refine zs2 ?_));refine rh ?_;(repeat(first|refine gk fun K hK=>?_|refine zs2 ?_));refine rf ?_;(repeat(first|refine gk fun K hK=>?_|refine zs2 ?_))
  refine av ?_
  (repeat(first|refine gk fun K hK=>?_|refine zs2 ?_));refine vd ?_;(repeat(first|refine gk fun K hK=>?_|refine zs2 ?_))
  exact⟨_,Sh.refl,.one (.tmp 6) _ rfl (.tmp 6 rfl)⟩
end DW
end
section
open Go.RowKit
namespace DW
set_option maxRecDepth 20000
set_option maxHeartbeats 2000000
theorem zd{row:List Int}{B:Mx.Mat}{k X L:Nat}(hl:row.length<=L)(h:∀j,(row.getD j 0*Mx.at' B j k).natAbs<=X):∀j,(cV row B k j).natAbs<=min j L*X
 |0=>by simp[cV]
 |j+1=>by
  have h1:=zd hl h j;have h2:=h j;show(cV row B k j+row.getD j 0*Mx.at' B j k).natAbs<=_;by_cases hj:j<L
  ·rw[Nat.min_eq_left (by omega)]at h1;rw[Nat.min_eq_left (by omega),Nat.succ_mul];omega
  ·rw[List.getD_eq_getElem?_getD,List.getElem?_eq_none (by omega)];rw[Nat.min_eq_right (by omega)]at h1⊢;simpa using h1
end DW
end
section
open Go.RowKit
namespace DW
theorem Cs{M:Mx.Mat}{X:Nat}(h:Mx.Bd X M){r:List Int}(hr:r∈M)(j:Nat):(r.getD j 0).natAbs<=X:=by
 rw[List.getD_eq_getElem?_getD]
 cases hj:r[j]? with
 |none=>simp
 |some z=>exact sO h hr (List.mem_of_getElem? hj)
theorem IT{m:Mx.Mat}{e:Nat}(he:e<=1000000000)(hU:Mx.Bd (2^e) (cj m))(hm:Mx.Bd (2^50) m)(hR:Mx.Rc (wid m) m)(h5:m.length<=5):Hl (cj m) m (wid m):=by
 have hp:∀row∈cj m,∀j k,(row.getD j 0*Mx.at' m j k).natAbs<=2^(e+50):=fun row hr j k=>by
  rw[Int.natAbs_mul,Nat.pow_add];exact Nat.mul_le_mul (Cs hU hr j) (hm j k)
 have hrl:∀row∈cj m,row.length=m.length:=Hp hR;refine⟨fun row hr=>by rw[hrl row hr];exact Nat.le_refl _,fun j hj=>by rw[hR.rw hj];exact Nat.le_refl _,fun row hr j=>bC (Cs hU hr j) (by omega),fun j k=>bC (hm j k) (by omega),fun row hr j k=>bC (hp row hr j k) (by omega),fun row hr k j=>?_⟩;have h1:=zd (row:=row) (B:=m) (k:=k) (X:=2^(e+50)) (L:=5) (by rw[hrl row hr];exact h5) (fun j=>hp row hr j k) j;refine bC (e:=e+53) (Nat.le_trans h1 ?_) (by omega);have e1:2^(e+53)=8*2^(e+50):=by rw[show e+53=3+(e+50) by omega,Nat.pow_add]
 rw[e1];exact Nat.mul_le_mul_right _ (by omega)
theorem uQ(m:Mx.Mat)(hs:smL m=true)(hc:chk m=0)(hi:(ba m).all (fun l=>l.all (inb 1000000000000000))=true):
  Fn Tryz.prog 18 [dM m] (.tp [dM (ba m),.sc (.bool true)])/\
  Fn Tryz.prog 20 [dW (cj m),zI (m.length:Nat)] (.sc (.bool true))/\
  Fn Tryz.prog 22 [dW (cj m),dW m,zI (wid m)] (dW (ba m))/\
  Fn Tryz.prog 23 [dM m] (dW m)/\
  Fn Tryz.prog 23 [dM (ba m)] (dW (ba m))/\
  Fn Tryz.prog 21 [dW (ba m),dW (ba m)] (.sc (.bool true))/\
  Fn Tryz.prog 19 [dM (ba m),dM (ba m)] (.sc (.bool true))/\(ba m).length=m.length/\Mx.Rc (wid m) (ba m):=by
 obtain⟨b3,b4⟩:=jg hs hc;obtain⟨k1,k2,k3,k4⟩:=eK hc;have HR:=uP m hc b4 b3;have e1:rHM m=ba m:=by
  have:=Mx.pJ k3;unfold rHM;rw[this]
 have hl:(ba m).length=m.length:=by rw[<-e1];exact yC hc
 have hrc:Mx.Rc (wid m) (ba m):=by rw[<-e1];exact Cx hc
 rw[e1]at HR;unfold nrw at HR;rw[if_pos hi]at HR;have h11:(11:Nat)^wid m<=11^5:=Nat.pow_le_pow_right (by omega) b4;have hpw:(11:Nat)^5=161051:=by decide
 obtain⟨e,he⟩:∃e,e=50*11^wid m:=⟨_,rfl⟩;have he2:e<=8052550:=by omega
 have BU:Mx.Bd (2^e) (cj m):=by rw[he];exact G7 (vw hc)
 have BH:Mx.Bd (2^e) (ba m):=by rw[he];exact GV (vw hc)
 have hme:(e+m.length)*m.length<=8052555*5:=Nat.mul_le_mul (by omega) b3;have hii:∀l∈ba m,∀z∈l,-9223372036854775808<=z/\z<=9223372036854775807:=fun l hl z hz=>by
  have:=mJ.1 (List.all_eq_true.1 (List.all_eq_true.1 hi l hl) z hz);omega
 have TI:=H7 (cj m) m (wid m) (by rw[Ef k3];omega) (by omega) (by omega) (IT (by omega) BU (oW hc) k3 b3);rw[KD k3]at TI;have EQ:=I1 (ba m) (ba m) (by omega) (fun l hl=>⟨by have:=hrc l hl;omega,fun z hz=>by
  have h1:=jo (sO BH hl hz) (by omega);have h2:=pA z.natAbs;omega⟩)
 have LS:=IL (ba m) (ba m) (by omega) (fun l hl=>by have:=hrc l hl;omega);rw[decide_eq_true rfl]at EQ LS;exact⟨HR,Et (cj m) m.length e (Ef k3) (Hp k3) BU (by omega) (by omega) (Mx.Ee k3),TI,
  vQ m (by omega) (fun l hl=>by have:=k3 l hl;omega) (fun l hl z hz=>ug hc l hl z hz),
  vQ (ba m) (by omega) (fun l hl=>by have:=hrc l hl;omega) hii,EQ,LS,hl,hrc⟩
end DW
end
end Go.Proofs.YtcgjmdpcplhanaaGreat
