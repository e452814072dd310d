/- Lemmas for the law: E71 -/
import Derived.Test.YtcgjmdpcplhanaaGreatZi17
namespace Go.Proofs.YtcgjmdpcplhanaaGreat
section
theorem PW{p q:Prop}(h:q)(f:Wq q->p:=by(intro hW;((refine dV (k:=8) (z:=(.agg #[.bool false,.slice none 0 0])) (d:=(.nm 0)) rfl rfl rfl rfl rfl ah aj aj dC aj aj cG ?_));exact hW.out)):p:=f ⟨h⟩
theorem zs156{p q:Prop}(h:q)(f:Wq q->p:=by(intro hW;((first|(refine aLs rfl rfl rfl rfl ?_ ?_;(focus(apply br;(conv=>lhs;whnf);(first|done|exact rfl|(apply bq;(first|(apply aB;omega)|(apply aF;omega)|assumption|(simp;done)))))))|refine aLw rfl rfl rfl rfl cE xr ?_));exact hW.out)):p:=f ⟨h⟩
theorem Iv{p q:Prop}(h:q)(f:Wq q->p:=by(intro hW;(refine mD ?_;refine xi ?_;refine gL ?_;refine oR ?_;refine fS ?_;refine Aw ?_;refine zs156 ?_;refine pL ?_;refine Ij ?_;refine lO ?_);exact hW.out)):p:=f ⟨h⟩
theorem Ci{p q:Prop}(h:q)(f:Wq q->p:=by(intro hW;(refine vS ?_;refine de ?_);exact hW.out)):p:=f ⟨h⟩
theorem vU{p q:Prop}(h:q)(f:Wq q->p:=by(intro hW;(refine mC ?_;refine uH ?_;refine zs4 ?_;refine pL ?_;refine zs95 ?_;refine As ?_;refine lO ?_);exact hW.out)):p:=f ⟨h⟩
theorem Iw{p q:Prop}(h:q)(f:Wq q->p:=by(intro hW;(refine qE ?_;refine xg ?_;refine PW ?_;refine zs6 ?_;refine zs6 ?_;refine gZ ?_;refine bc ?_);exact hW.out)):p:=f ⟨h⟩
theorem zs157{p q:Prop}(h:q)(f:Wq q->p:=by(intro hW;(refine vM [7,8] ah zb21 ?_);exact hW.out)):p:=f ⟨h⟩
theorem zs158{p q:Prop}(h:q)(f:Wq q->p:=by(intro hW;((refine nY (k:=7) (z:=(.agg #[.int .i64 0,.slice none 0 0,.bool false,.slice none 0 0])) (d:=(.st [.sc (.int .i64 0),.sc (.slice none 0 0),.sc (.bool false),.sc (.slice none 0 0)])) rfl rfl rfl rfl rfl ah aj aj dC aj aj ?_));exact hW.out)):p:=f ⟨h⟩
theorem zs159{p q:Prop}(h:q)(f:Wq q->p:=by(intro hW;((refine nY (k:=8) (z:=(.agg #[.int .i64 0,.slice none 0 0,.bool false,.slice none 0 0])) (d:=(.st [.sc (.int .i64 0),.sc (.slice none 0 0),.sc (.bool false),.sc (.slice none 0 0)])) rfl rfl rfl rfl rfl ah aj aj dC aj aj ?_));exact hW.out)):p:=f ⟨h⟩
theorem zs269{p q:Prop}(h:q)(f:Wq q->p:=by(intro hW;(refine zs157 ?_;refine fT ?_;refine oY ?_;refine fT ?_;refine oY ?_;refine zs158 ?_;refine zs159 ?_;refine jC ?_;refine jC ?_;refine kB ?_);exact hW.out)):p:=f ⟨h⟩
theorem ym{p q:Prop}(h:q)(f:Wq q->p:=by(intro hW;(refine Ci ?_;refine mG ?_;refine zs269 ?_;refine zs2 ?_);exact hW.out)):p:=f ⟨h⟩
end
section
open Go.RowKit
namespace DW
set_option maxRecDepth 20000
set_option maxHeartbeats 4000000
theorem Lf(n1 e1 n2 e2 d1 d2 d:Int)(m1 m2 R1 R2 P Q:Mx.Mat)(B1:Fn Tryz.prog 105 [dL n1 m1 e1] (.tp [dW R1,.nm d1]))(B2:Fn Tryz.prog 105 [dL n2 m2 e2] (.tp [dW R2,.nm d2]))(S1:Fn Tryz.prog 108 [dW R1,.nm d2] (dW P))(S2:Fn Tryz.prog 108 [dW R2,.nm d1] (dW Q))(ML:Fn Tryz.prog 84 [.nm d1,.nm d2] (.nm d)):Fn Tryz.prog 138 [dL n1 m1 e1,dL n2 m2 e2] (.tp [dW P,dW Q,.nm d]):=by
 refine bh Tryz.func138 ah rfl rfl rfl fun X0=>?_;simp only[aK];refine zs2 ?_;refine il ?_;refine tu ?_;refine zs3 ?_;refine zs3 ?_;refine zs80 ?_;refine dX ?_;refine mC ?_;refine oc ?_;refine PW ?_;refine zs6 ?_;refine jz ?_;refine mC ?_;refine oc ?_;(refine dV (k:=10) (z:=(.agg #[.bool false,.slice none 0 0])) (d:=(.nm 0)) rfl rfl rfl rfl rfl ah aj aj dC aj aj cG ?_);refine zs6 ?_;refine jz ?_;refine av (ao (k:=8) aH aR aQ) ?_;refine av (ao (k:=10) aH aR aQ) ?_;refine zs2 ?_;refine mH ?_;refine gF ?_;refine mE ?_;refine gF ?_;refine mE ?_;refine fT ?_;refine mE ?_;refine oZ ?_;refine oZ ?_;refine jC ?_;refine kB ?_;refine zs2 ?_;exact⟨_,ao (k:=6) aH aR aQ,.three (.tmp 4) (.tmp 5) (.cell 6 62) _ _ _ rfl (.tmp 4 rfl) (.tmp 5 rfl) (.cell 6 _ _ rfl rfl ah ah)⟩
theorem NY(n1 e1 n2 e2 d q1 q2 p1 p2 a b c:Int)(m1 m2 P Q:Mx.Mat)(CO:Fn Tryz.prog 138 [dL n1 m1 e1,dL n2 m2 e2] (.tp [dW P,dW Q,.nm d]))(hP:¬(P.length:Int)<n1)(hQ:¬(Q.length:Int)<n1)(DQ:Fn Tryz.prog 43 [dW Q] (.nm q1))(SQ:Fn Tryz.prog 110 [.nm q1] (.nm q2))(DP:Fn Tryz.prog 43 [dW P] (.nm p1))(SP:Fn Tryz.prog 110 [.nm p1] (.nm p2))(FR:Fn Tryz.prog 139 [.nm q2,.nm p2] (.tp [dF a b,zI c])):Fn Tryz.prog 66 [dL n1 m1 e1,dL n2 m2 e2] (.tp [dF a b,zI c]):=by
 refine bh Tryz.func66 ah rfl rfl rfl fun X0=>?_;simp only[aK];refine mF ?_;refine Iw ?_;refine zs2 ?_;refine Iv ?_;refine bK ?_;refine cF ?_;refine jx ?_;refine jx ?_;refine zs4 ?_;refine jx ?_;refine jx ?_;refine nA ?_;refine xg ?_;refine xg ?_;refine gZ ?_;refine cS ?_;exact⟨_,ao (k:=4) aH aR aQ,.two (.cell 4 73) (.tmp 5) _ _ rfl (.cell 4 _ _ rfl rfl ah ah) (.tmp 5 rfl)⟩
theorem N0(n1 e1 n2 e2 d:Int)(m1 m2 P Q:Mx.Mat)(CO:Fn Tryz.prog 138 [dL n1 m1 e1,dL n2 m2 e2] (.tp [dW P,dW Q,.nm d]))(h:(P.length:Int)<n1\/(Q.length:Int)<n1):Fn Tryz.prog 66 [dL n1 m1 e1,dL n2 m2 e2] (.tp [dF 0 0,zI 12]):=by
 by_cases hP:(P.length:Int)<n1
 ·refine bh Tryz.func66 ah rfl rfl rfl fun X0=>?_;simp only[aK];refine mF ?_;refine Iw ?_;refine zs2 ?_;refine Iv ?_;refine vO ?_;exact⟨_,ao (k:=4) aH aR aQ,.two (.cell 4 73) (.tmp 5) _ _ rfl (.cell 4 _ _ rfl rfl ah ah) (.tmp 5 rfl)⟩
 ·have hQ:(Q.length:Int)<n1:=h.resolve_left hP;refine bh Tryz.func66 ah rfl rfl rfl fun X0=>?_;simp only[aK];refine mF ?_;refine Iw ?_;refine zs2 ?_;refine Iv ?_;refine vO ?_;exact⟨_,ao (k:=4) aH aR aQ,.two (.cell 4 73) (.tmp 5) _ _ rfl (.cell 4 _ _ rfl rfl ah ah) (.tmp 5 rfl)⟩
theorem N8(n1 e1 n2 e2 C:Int)(m1 m2:Mx.Mat)(hC:C≠0)(TW:Fn Tryz.prog 134 [dL n1 m1 e1,dL n2 m2 e2] (zI C)):Fn Tryz.prog 64 [dL n1 m1 e1,dL n2 m2 e2] (.tp [dF 0 0,zI C]):=by
 refine bh Tryz.func64 ah rfl rfl rfl fun X0=>?_;simp only[aK];refine mF ?_;refine Ci ?_;refine zs2 ?_;refine qG ?_;refine bs ?_;refine gar ?_;refine PY ?_;refine zs4 ?_;refine gZ ?_;refine cS ?_;exact⟨_,ao (k:=4) aH aR aQ,.two (.cell 4 73) (.tmp 5) _ _ rfl (.cell 4 _ _ rfl rfl ah ah) (.tmp 5 rfl)⟩
theorem N7(n1 e1 n2 e2 d1 d2:Int)(m1 m2 R1 R2:Mx.Mat)(b1 b2:Bool)(h:(b1&&b2)=false)(TW:Fn Tryz.prog 134 [dL n1 m1 e1,dL n2 m2 e2] (zI 0))(RA:Fn Tryz.prog 87 [dL n1 m1 e1] (ez n1 R1 d1))(RB:Fn Tryz.prog 87 [dL n2 m2 e2] (ez n2 R2 d2))(FA:Fn Tryz.prog 94 [ez n1 R1 d1] (.sc (.bool b1)))(FB:Fn Tryz.prog 94 [ez n2 R2 d2] (.sc (.bool b2))):Fn Tryz.prog 64 [dL n1 m1 e1,dL n2 m2 e2] (.tp [dF 0 0,zI 12]):=by
 cases b1
 ·clear h;refine bh Tryz.func64 ah rfl rfl rfl fun X0=>?_;simp only[aK];refine mF ?_;refine ym ?_;refine av (ao (k:=7) aH aR aQ) ?_;refine av (ao (k:=8) aH aR aQ) ?_;refine zs2 ?_;refine vU ?_;refine vO ?_;exact⟨_,ao (k:=4) aH aR aQ,.two (.cell 4 73) (.tmp 5) _ _ rfl (.cell 4 _ _ rfl rfl ah ah) (.tmp 5 rfl)⟩
 ·cases b2
  ·clear h;refine bh Tryz.func64 ah rfl rfl rfl fun X0=>?_;simp only[aK];refine mF ?_;refine ym ?_;refine av (ao (k:=7) aH aR aQ) ?_;refine av (ao (k:=8) aH aR aQ) ?_;refine zs2 ?_;refine vU ?_;refine vO ?_;exact⟨_,ao (k:=4) aH aR aQ,.two (.cell 4 73) (.tmp 5) _ _ rfl (.cell 4 _ _ rfl rfl ah ah) (.tmp 5 rfl)⟩
  ·cases h
theorem N6(n1 e1 n2 e2 d1 d2 v1 v2 w1 w2 z1 z2 a b c:Int)(m1 m2 R1 R2:Mx.Mat)(TW:Fn Tryz.prog 134 [dL n1 m1 e1,dL n2 m2 e2] (zI 0))(RA:Fn Tryz.prog 87 [dL n1 m1 e1] (ez n1 R1 d1))(RB:Fn Tryz.prog 87 [dL n2 m2 e2] (ez n2 R2 d2))(FA:Fn Tryz.prog 94 [ez n1 R1 d1] (.sc (.bool true)))(FB:Fn Tryz.prog 94 [ez n2 R2 d2] (.sc (.bool true)))(V2:Fn Tryz.prog 136 [ez n2 R2 d2] (.nm v2))(W1:Fn Tryz.prog 137 [.nm d1,zI n1] (.nm w1))(M1:Fn Tryz.prog 117 [.nm v2,.nm w1] (.nm z1))(V1:Fn Tryz.prog 136 [ez n1 R1 d1] (.nm v1))(W2:Fn Tryz.prog 137 [.nm d2,zI n1] (.nm w2))(M2:Fn Tryz.prog 117 [.nm v1,.nm w2] (.nm z2))(FR:Fn Tryz.prog 135 [.nm z1,.nm z2] (.tp [dF a b,zI c])):Fn Tryz.prog 64 [dL n1 m1 e1,dL n2 m2 e2] (.tp [dF a b,zI c]):=by
 refine bh Tryz.func64 ah rfl rfl rfl fun X0=>?_;simp only[aK];refine mF ?_;refine ym ?_;refine av (ao (k:=7) aH aR aQ) ?_;refine av (ao (k:=8) aH aR aQ) ?_;refine zs2 ?_;refine vU ?_;refine bK ?_;refine mH ?_;refine Ce ?_;refine we ?_;refine mE ?_;refine qH ?_;refine Ce ?_;refine we ?_;refine mE ?_;refine qH ?_;refine qH ?_;refine kC ?_;refine kC ?_;refine jC ?_;refine oZ ?_;refine kB ?_;refine zs2 ?_;exact⟨_,ao (k:=4) aH aR aQ,.two (.cell 4 73) (.tmp 5) _ _ rfl (.cell 4 _ _ rfl rfl ah ah) (.tmp 5 rfl)⟩
end DW
end
end Go.Proofs.YtcgjmdpcplhanaaGreat
