/- Lemmas for the law: F27 -/
import Derived.Test.YtepdigdijecgpaaGreatZs6
namespace Go.Proofs.YtepdigdijecgpaaGreat
section
theorem pz{p q:Prop}(h:q)(f:Wq q->p:=by(intro hW;(refine aL1 rfl rfl rfl (by(first|(apply sR;(exact rfl);(focus((apply aw;(conv=>lhs;whnf);(first|done|exact rfl))));(focus(first|exact rfl|(apply aF;omega)|assumption|(simp;done)));(exact gF))|(apply sS;(exact rfl);(focus((apply aw;(conv=>lhs;whnf);(first|done|exact rfl))));(focus(first|exact rfl|(apply aN;omega)|assumption|(simp;done)));(focus((apply aw;(conv=>lhs;whnf);(first|done|exact rfl)))))|(apply d_pick;(exact rfl);(focus((apply aw;(conv=>lhs;whnf);(first|done|exact rfl))));(exact gF);(focus((apply aw;(conv=>lhs;whnf);(first|done|exact rfl))));(exact rfl)))) ?_);exact hW.out)):p:=f ⟨h⟩
theorem uC{p q:Prop}(h:q)(f:Wq q->p:=by(intro hW;((first|(refine aLs rfl rfl rfl rfl ?_ ?_;(focus(apply cj;(conv=>lhs;whnf);(first|done|exact rfl|(apply bO;(first|(apply aF;omega)|(apply aN;omega)|assumption|(simp;done)))))))|refine aLw rfl rfl rfl rfl ed zb17 ?_));exact hW.out)):p:=f ⟨h⟩
theorem zt{p q:Prop}(h:q)(f:Wq q->p:=by(intro hW;(refine bN ?_;refine nk ?_;refine ea ?_;refine uC ?_;refine pz ?_;refine aS ?_);exact hW.out)):p:=f ⟨h⟩
theorem qH{p q:Prop}(h:q)(f:Wq q->p:=by(intro hW;(refine gar ?_;refine zs9 ?_;refine nq ?_;refine aS ?_);exact hW.out)):p:=f ⟨h⟩
theorem zs55{p q:Prop}(h:q)(f:Wq q->p:=by(intro hW;(refine aL1 rfl rfl rfl (by(apply Be;(exact rfl);(assumption);(exact rfl))) ?_);exact hW.out)):p:=f ⟨h⟩
theorem zs56{p q:Prop}(h:q)(f:Wq q->p:=by(intro hW;(refine aL1 rfl rfl rfl uP ?_);exact hW.out)):p:=f ⟨h⟩
theorem uJ{p q:Prop}(h:q)(f:Wq q->p:=by(intro hW;(refine gar ?_;refine zs55 ?_;refine zs56 ?_;refine aS ?_);exact hW.out)):p:=f ⟨h⟩
theorem zb12{p:Prop}(h:p:=by(apply qg;(exact rfl);(focus((apply aw;(conv=>lhs;whnf);(first|done|exact rfl))));(exact bD);(exact bD);(exact rfl);(exact rfl);(exact rfl);(assumption);(exact rfl))):p:=h
theorem zs58{p q:Prop}(h:q)(f:Wq q->p:=by(intro hW;(refine aL1 rfl rfl rfl zb12 ?_);exact hW.out)):p:=f ⟨h⟩
theorem nW{p q:Prop}(h:q)(f:Wq q->p:=by(intro hW;(refine bN ?_;refine zs58 ?_;refine zs56 ?_;refine aS ?_);exact hW.out)):p:=f ⟨h⟩
theorem zs60{p q:Prop}(h:q)(f:Wq q->p:=by(intro hW;((first|(refine aLs rfl rfl rfl rfl ?_ ?_;(focus(apply cj;(conv=>lhs;whnf);(first|done|exact rfl|(apply bO;(first|(apply aF;omega)|(apply aN;omega)|assumption|(simp;done)))))))|refine aLw rfl rfl rfl rfl ed zb3 ?_));exact hW.out)):p:=f ⟨h⟩
theorem zs61{p q:Prop}(h:q)(f:Wq q->p:=by(intro hW;((first|(refine aLs rfl rfl rfl rfl ?_ ?_;(focus(apply cj;(conv=>lhs;whnf);(first|done|exact rfl|(apply bO;(first|(apply aF;omega)|(apply aN;omega)|assumption|(simp;done)))))))|refine aLw rfl rfl rfl rfl ed zb1 ?_));exact hW.out)):p:=f ⟨h⟩
theorem uB{p q:Prop}(h:q)(f:Wq q->p:=by(intro hW;((first|(refine aLs rfl rfl rfl rfl ?_ ?_;(focus(apply cj;(conv=>lhs;whnf);(first|done|exact rfl|(apply bO;(first|(apply aF;omega)|(apply aN;omega)|assumption|(simp;done)))))))|refine aLw rfl rfl rfl rfl ed zb7 ?_));exact hW.out)):p:=f ⟨h⟩
theorem zs59{p q:Prop}(h:q)(f:Wq q->p:=by(intro hW;(refine aL1 rfl rfl rfl zb3 ?_);exact hW.out)):p:=f ⟨h⟩
theorem zs107{p q:Prop}(h:q)(f:Wq q->p:=by(intro hW;(refine cZ ?_;refine zs59 ?_;refine ea ?_;refine zs5 ?_;refine zs60 ?_;refine zs7 ?_;refine ea ?_;refine zs61 ?_;refine uB ?_;refine zs7 ?_;refine ea ?_;refine uB ?_;refine zs7 ?_;refine fQ ?_);exact hW.out)):p:=f ⟨h⟩
theorem nU{p q:Prop}(h:q)(f:Wq q->p:=by(intro hW;(refine aX ?_;refine cB ?_;refine uy ?_;refine aX ?_;refine zs107 ?_);exact hW.out)):p:=f ⟨h⟩
theorem zs52{p q:Prop}(h:q)(f:Wq q->p:=by(intro hW;(refine aL1 rfl rfl rfl (by(apply zf;(exact rfl);(focus((apply aw;(conv=>lhs;whnf);(first|done|exact rfl))));(exact rfl))) ?_);exact hW.out)):p:=f ⟨h⟩
theorem zs100{p q:Prop}(h:q)(f:Wq q->p:=by(intro hW;(refine gar ?_;refine zs52 ?_;refine zs9 ?_;refine nq ?_;refine aS ?_);exact hW.out)):p:=f ⟨h⟩
theorem zs101{p q:Prop}(h:q)(f:Wq q->p:=by(intro hW;(refine gar ?_;refine pA ?_;refine nk ?_;refine zs3 ?_;refine zs43 ?_;refine uC ?_;refine pz ?_;refine aS ?_);exact hW.out)):p:=f ⟨h⟩
theorem qE{p q:Prop}(h:q)(f:Wq q->p:=by(intro hW;(refine zs1 ?_;refine zs100 ?_;refine zs1 ?_;refine zs101 ?_);exact hW.out)):p:=f ⟨h⟩
theorem zs57{p q:Prop}(h:q)(f:Wq q->p:=by(intro hW;((first|(refine aLs rfl rfl rfl rfl ?_ ?_;(focus(apply cj;(conv=>lhs;whnf);(first|done|exact rfl|(apply bO;(first|(apply aF;omega)|(apply aN;omega)|assumption|(simp;done)))))))|refine aLw rfl rfl rfl rfl ed (by(apply qg;(exact rfl);(focus((apply aw;(conv=>lhs;whnf);(first|done|exact rfl))));(exact bD);(exact bD);(exact rfl);(exact rfl);(exact rfl);(focus((first|exact fail)));(exact rfl))) ?_));exact hW.out)):p:=f ⟨h⟩
theorem zs105{p q:Prop}(h:q)(f:Wq q->p:=by(intro hW;(refine bN ?_;refine nk ?_;refine ea ?_;refine uC ?_;refine zs7 ?_;refine ea ?_;refine zs57 ?_;refine zs7 ?_;refine aS ?_);exact hW.out)):p:=f ⟨h⟩
theorem nV{p q:Prop}(h:q)(f:Wq q->p:=by(intro hW;(refine ij ?_;refine uJ ?_;refine aM ?_;refine zs105 ?_;refine aM ?_;refine pr ?_;refine zs1 ?_;refine pr ?_;refine zs1 ?_;refine cB ?_;refine nW ?_);exact hW.out)):p:=f ⟨h⟩
theorem qF{p q:Prop}(h:q)(f:Wq q->p:=by(intro hW;(refine pz ?_;refine ea ?_;refine zs5 ?_;refine zs5 ?_);exact hW.out)):p:=f ⟨h⟩
theorem zs67{p q:Prop}(h:q)(f:Wq q->p:=by(intro hW;((first|(refine aLs rfl rfl rfl rfl ?_ ?_;(focus(apply cj;(conv=>lhs;whnf);(first|done|exact rfl|(apply bO;(first|(apply aF;omega)|(apply aN;omega)|assumption|(simp;done)))))))|refine aLw rfl rfl rfl rfl ed uP ?_));exact hW.out)):p:=f ⟨h⟩
theorem zs66{p q:Prop}(h:q)(f:Wq q->p:=by(intro hW;((first|(refine aLs rfl rfl rfl rfl ?_ ?_;(focus(apply cj;(conv=>lhs;whnf);(first|done|exact rfl|(apply bO;(first|(apply aF;omega)|(apply aN;omega)|assumption|(simp;done)))))))|refine aLw rfl rfl rfl rfl ed uQ ?_));exact hW.out)):p:=f ⟨h⟩
theorem zs65{p q:Prop}(h:q)(f:Wq q->p:=by(intro hW;((first|(refine aLs rfl rfl rfl rfl ?_ ?_;(focus(apply cj;(conv=>lhs;whnf);(first|done|exact rfl|(apply bO;(first|(apply aF;omega)|(apply aN;omega)|assumption|(simp;done)))))))|refine aLw rfl rfl rfl rfl ed zb6 ?_));exact hW.out)):p:=f ⟨h⟩
theorem zs64{p q:Prop}(h:q)(f:Wq q->p:=by(intro hW;((first|(refine aLs rfl rfl rfl rfl ?_ ?_;(focus(apply cj;(conv=>lhs;whnf);(first|done|exact rfl|(apply bO;(first|(apply aF;omega)|(apply aN;omega)|assumption|(simp;done)))))))|refine aLw rfl rfl rfl rfl ed zb8 ?_));exact hW.out)):p:=f ⟨h⟩
theorem zs109{p q:Prop}(h:q)(f:Wq q->p:=by(intro hW;(refine bN ?_;refine qY ?_;refine ea ?_;refine zs64 ?_;refine qF ?_;refine zs5 ?_;refine zs65 ?_;refine zs66 ?_;refine zs67 ?_;refine qF ?_;refine zs66 ?_;refine zs41 ?_;refine pz ?_;refine aS ?_);exact hW.out)):p:=f ⟨h⟩
theorem uI{p q:Prop}(h:q)(f:Wq q->p:=by(intro hW;(refine nV ?_;refine aM ?_;refine nW ?_;refine aM ?_;refine uy ?_;refine aM ?_;refine zs109 ?_;refine aM ?_);exact hW.out)):p:=f ⟨h⟩
theorem zs68{p q:Prop}(h:q)(f:Wq q->p:=by(intro hW;((first|(refine aLs rfl rfl rfl rfl ?_ ?_;(focus(apply cj;(conv=>lhs;whnf);(first|done|exact rfl|(apply bO;(first|(apply aF;omega)|(apply aN;omega)|assumption|(simp;done)))))))|refine aLw rfl rfl rfl rfl ed (by(apply ud;(exact rfl);(focus((apply aw;(conv=>lhs;whnf);(first|done|exact rfl))));(focus((apply aw;(conv=>lhs;whnf);(first|done|exact rfl))));(exact rfl);(exact rfl);(focus((first|exact fail)));(exact rfl))) ?_));exact hW.out)):p:=f ⟨h⟩
theorem zq{p q:Prop}(h:q)(f:Wq q->p:=by(intro hW;(refine bN ?_;refine uE ?_;refine ea ?_;refine uB ?_;refine qF ?_;refine zs68 ?_;refine zs60 ?_;refine pz ?_;refine fQ ?_);exact hW.out)):p:=f ⟨h⟩
theorem zs63{p q:Prop}(h:q)(f:Wq q->p:=by(intro hW;((first|(refine aLs rfl rfl rfl rfl ?_ ?_;(focus(apply cj;(conv=>lhs;whnf);(first|done|exact rfl|(apply bO;(first|(apply aF;omega)|(apply aN;omega)|assumption|(simp;done)))))))|refine aLw rfl rfl rfl rfl ed zb12 ?_));exact hW.out)):p:=f ⟨h⟩
theorem zr{p q:Prop}(h:q)(f:Wq q->p:=by(intro hW;(refine bN ?_;refine nk ?_;refine ea ?_;refine uC ?_;refine zs7 ?_;refine ea ?_;refine zs63 ?_;refine zs7 ?_;refine aS ?_);exact hW.out)):p:=f ⟨h⟩
end
section
open Go.RowKit
namespace DW
set_option maxRecDepth 20000
set_option maxHeartbeats 2000000
theorem BL(k n:Int)(h:¬(2<=k/\k<=4)):Fn Tryz.prog 55 [zI k,zI n] (.tp [dM [],zI 9]):=by
 refine cR Tryz.func55 aD rfl rfl rfl fun X0=>?_;simp only[bC];by_cases h2:k<2
 ·refine qE ?_;refine aX ?_;refine qH ?_;refine zs1 ?_;exact⟨_,qW (t:=4) (wd:=1) rfl,.two (.tmp 4) (.tmp 5) _ _ rfl (.tmp 4 rfl) (.tmp 5 rfl)⟩
 ·have h4:4<k:=by omega
  clear h;refine qE ?_;refine aX ?_;refine qH ?_;refine zs1 ?_;exact⟨_,qW (t:=4) (wd:=1) rfl,.two (.tmp 4) (.tmp 5) _ _ rfl (.tmp 4 rfl) (.tmp 5 rfl)⟩
theorem BM(k n:Int)(h2:2<=k)(h4:k<=4)(h:¬(0<=n/\n<=100000)):Fn Tryz.prog 55 [zI k,zI n] (.tp [dM [],zI 2]):=by
 refine cR Tryz.func55 aD rfl rfl rfl fun X0=>?_;simp only[bC];by_cases h0:n<0
 ·refine qE ?_;refine aM ?_;refine zt ?_;refine aX ?_;refine qH ?_;refine zs1 ?_;exact⟨_,qW (t:=4) (wd:=1) rfl,.two (.tmp 4) (.tmp 5) _ _ rfl (.tmp 4 rfl) (.tmp 5 rfl)⟩
 ·have h4:100000<n:=by omega
  clear h;refine qE ?_;refine aM ?_;refine zt ?_;refine aX ?_;refine qH ?_;refine zs1 ?_;exact⟨_,qW (t:=4) (wd:=1) rfl,.two (.tmp 4) (.tmp 5) _ _ rfl (.tmp 4 rfl) (.tmp 5 rfl)⟩
theorem sb(K n C:Int)(hC:C≠0)(SQ:Fn Tryz.prog 55 [zI K,zI n] (.tp [dM [],zI C])):Fn Tryz.prog 56 [zI K,zI n] (.tp [zI 0,zI C]):=by
 have hCd:(!decide (C=0))=true:=by rw[aN hC];rfl
 refine cR Tryz.func56 aD rfl rfl rfl fun X0=>?_;simp only[bC];refine zs1 ?_;refine uz ?_;refine zs1 ?_;refine pr ?_;refine zs1 ?_;refine uy ?_;refine aX ?_;refine bN ?_;refine nq ?_;refine da ?_;exact⟨_,Sh.refl,.two (.tmp 4) (.tmp 5) _ _ rfl (.tmp 4 rfl) (.tmp 5 rfl)⟩
theorem xq(k n:Int)(h:¬(2<=k/\k<=4)):Fn Tryz.prog 9 [zI k,zI n] (.sc (.bool true)):=by
 have AW:=kX;have SQ:=BL k n h;have CQ:=sb k n 9 aA SQ;have WI:=gC k 2 4;have hW:(decide (2<=k)&&decide (k<=4))=false:=by
  rw[rz,db,db];omega
 rw[hW]at WI;clear h hW;refine cR Tryz.func9 aD rfl rfl rfl fun X0=>?_;simp only[bC];by_cases h1:n<=1500
 ·refine nV ?_;refine nU ?_;refine zs1 ?_;exact⟨_,Sh.refl,.one (.tmp 4) _ rfl (.tmp 4 rfl)⟩
 ·by_cases h2:n<=100000
  ·refine ij ?_;refine uJ ?_;refine aM ?_;refine zr ?_;refine aM ?_;refine pr ?_;refine zs1 ?_;refine pr ?_;refine zs1 ?_;refine cB ?_;refine nW ?_;refine nU ?_;refine zs1 ?_;exact⟨_,Sh.refl,.one (.tmp 4) _ rfl (.tmp 4 rfl)⟩
  ·refine nV ?_;refine nU ?_;refine zs1 ?_;exact⟨_,Sh.refl,.one (.tmp 4) _ rfl (.tmp 4 rfl)⟩
theorem xr(k n:Int)(hk2:2<=k)(hk4:k<=4)(h:¬(0<=n/\n<=100000)):Fn Tryz.prog 9 [zI k,zI n] (.sc (.bool true)):=by
 have AW:=kX;have SQ:=BM k n hk2 hk4 h;have CQ:=sb k n 2 aA SQ;have WI:=gC k 2 4;have WN:=gC n 0 100000;have hW:(decide (2<=k)&&decide (k<=4))=true:=by rw[aF hk2,aF hk4];rfl
 have hN:(decide (0<=n)&&decide (n<=100000))=false:=by
  rw[rz,db,db];omega
 rw[hW]at WI;rw[hN]at WN;clear hW hN;refine cR Tryz.func9 aD rfl rfl rfl fun X0=>?_;simp only[bC];by_cases h1:n<=1500
 ·refine nV ?_;refine aM ?_;refine nW ?_;refine nU ?_;refine zs1 ?_;exact⟨_,Sh.refl,.one (.tmp 4) _ rfl (.tmp 4 rfl)⟩
 ·have h2:¬n<=100000:=by omega
  refine nV ?_;refine aM ?_;refine nW ?_;refine nU ?_;refine zs1 ?_;exact⟨_,Sh.refl,.one (.tmp 4) _ rfl (.tmp 4 rfl)⟩
theorem vE(k n:Int)(hk2:2<=k)(hk4:k<=4)(h1:1500<n)(h2:n<=100000):Fn Tryz.prog 9 [zI k,zI n] (.sc (.bool true)):=by
 have AW:=kX;have WI:=gC k 2 4;have hW:(decide (2<=k)&&decide (k<=4))=true:=by rw[aF hk2,aF hk4];rfl
 rw[hW]at WI;clear hW;refine cR Tryz.func9 aD rfl rfl rfl fun X0=>?_;simp only[bC];refine ij ?_;refine uJ ?_;refine aM ?_;refine zr ?_;refine aX ?_;refine lf ?_;refine zs1 ?_;exact⟨_,Sh.refl,.one (.tmp 4) _ rfl (.tmp 4 rfl)⟩
theorem yP(k n:Int)(c:Int)(L:List (List Int))(hk2:2<=k)(hk4:k<=4)(h0:0<=n)(h1:n<=1500)(hL:L.length<=1000000000)(hL2:∀l∈L,l.length<=1000000000)(SQ:Fn Tryz.prog 55 [zI k,zI n] (.tp [dM L,zI 0]))(CQ:Fn Tryz.prog 56 [zI k,zI n] (.tp [zI c,zI 0]))
  (RS:Fn Tryz.prog 57 [zI k,zI n,zI n] (dM L)) (RC:Fn Tryz.prog 58 [zI k,zI n] (zI c)) (h:k=3\/(k≠3/\n=0)\/(k≠3/\n≠0/\Fn Tryz.prog 59 [zI k,zI n] (zI c))):
  Fn Tryz.prog 9 [zI k,zI n] (.sc (.bool true)):=by
 have AW:=kX;have WI:=gC k 2 4;have WN:=gC n 0 100000;have hW:(decide (2<=k)&&decide (k<=4))=true:=by rw[aF hk2,aF hk4];rfl
 have hN:(decide (0<=n)&&decide (n<=100000))=true:=by rw[aF h0,aF (show n<=100000 by omega)];rfl
 have LS:=AJ L L hL hL2;rw[aF rfl]at LS;rw[hW]at WI;rw[hN]at WN;have h00:(!decide ((0:Int)=0))=false:=rfl;have hcc:(!decide (c=c))=false:=by rw[aF rfl];rfl
 have hce:decide (c=c)=true:=aF rfl;clear hW hN hL hL2;rcases h with h3|⟨h5,h3⟩|⟨h3,h4,JQ⟩
 ·subst h3;refine cR Tryz.func9 aD rfl rfl rfl fun X0=>?_;simp only[bC];refine uI ?_;refine zq ?_;refine zs1 ?_;exact⟨_,Sh.refl,.one (.tmp 4) _ rfl (.tmp 4 rfl)⟩
 ·subst h3;refine cR Tryz.func9 aD rfl rfl rfl fun X0=>?_;simp only[bC];refine uI ?_;refine zq ?_;refine zs1 ?_;exact⟨_,Sh.refl,.one (.tmp 4) _ rfl (.tmp 4 rfl)⟩
 ·refine cR Tryz.func9 aD rfl rfl rfl fun X0=>?_;simp only[bC];refine uI ?_;refine bN ?_;refine uE ?_;refine ea ?_;refine uB ?_;refine qF ?_;refine zs66 ?_;refine zs60 ?_;refine pz ?_;refine da ?_;rw[hce];exact⟨_,Sh.refl,.one (.tmp 4) _ rfl (.tmp 4 rfl)⟩
end DW
end
end Go.Proofs.YtepdigdijecgpaaGreat
