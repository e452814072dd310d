/- Lemmas for the law: E69 E71 -/
import Derived.Test.YtcgjmdpcplhanaaGreatZs18
namespace Go.Proofs.YtcgjmdpcplhanaaGreat
section
theorem Ry{p q:Prop}(h:q)(f:Wq q->p:=by(intro hW;(refine aL1 rfl rfl rfl (by(first|(apply uj;(exact rfl);(focus((apply aE;(conv=>lhs;whnf);(first|done|exact rfl))));(exact rfl);(focus((first|exact fN|exact fL|exact fM|exact wd_pt|exact rfl)));(exact rfl);(kernel_rfl);(kernel_rfl))|(apply ke;(exact rfl);(focus((apply aE;(conv=>lhs;whnf);(first|done|exact rfl))));(focus((repeat(first|exact bn|refine bu _ ?_))));(exact iK);(exact rfl);(exact rfl);(focus((first|exact fN|exact fL|exact fM|exact wd_pt|exact rfl)));(exact rfl);(kernel_rfl);(kernel_rfl))|(apply kR;(exact rfl);(focus((apply aE;(conv=>lhs;whnf);(first|done|exact rfl))));(focus((repeat(first|exact bn|refine bu _ ?_))));(exact rfl);(focus((first|exact iK|(apply oY;assumption)|assumption|exact g0|exact rfl)));(exact rfl);(focus((first|exact fN|exact fL|exact fM|exact wd_pt|exact rfl)));(exact rfl);(kernel_rfl);(kernel_rfl))|(apply d_load_row;(exact rfl);(focus((apply aE;(conv=>lhs;whnf);(first|done|exact rfl))));(focus((repeat(first|exact bn|refine bu _ ?_))));(exact rfl);(focus(first|(apply fP;assumption)|exact rfl));(assumption);(kernel_rfl);(kernel_rfl)))) ?_);exact hW.out)):p:=f ⟨h⟩
theorem Rx{p q:Prop}(h:q)(f:Wq q->p:=by(intro hW;(refine aL1 rfl rfl rfl (by(first|(apply kd;(exact rfl);(focus((apply aE;(conv=>lhs;whnf);(first|done|exact rfl))));(focus((apply aE;(conv=>lhs;whnf);(first|done|exact rfl))));(kernel_rfl);(kernel_rfl);(omega);(focus((first|exact g1|(apply get_map;assumption)|(apply get_own;assumption)))))|(apply iq;(exact rfl);(focus((apply aE;(conv=>lhs;whnf);(first|done|exact rfl))));(focus((apply aE;(conv=>lhs;whnf);(first|done|exact rfl))));(focus((repeat(first|exact bn|refine bu _ ?_))));(kernel_rfl);(kernel_rfl);(focus(first|omega|(simp;omega)));(focus(first|(apply fP;assumption)|exact rfl))))) ?_);exact hW.out)):p:=f ⟨h⟩
theorem Rz{p q:Prop}(h:q)(f:Wq q->p:=by(intro hW;(refine aL1 rfl rfl rfl (by(first|(apply kd;(exact rfl);(focus((apply aE;(conv=>lhs;whnf);(first|done|exact rfl))));(focus((apply aE;(conv=>lhs;whnf);(first|done|exact rfl))));(kernel_rfl);(kernel_rfl);(omega);(focus((first|exact g0|(apply get_map;assumption)|(apply get_own;assumption)))))|(apply iq;(exact rfl);(focus((apply aE;(conv=>lhs;whnf);(first|done|exact rfl))));(focus((apply aE;(conv=>lhs;whnf);(first|done|exact rfl))));(focus((repeat(first|exact bn|refine bu _ ?_))));(kernel_rfl);(kernel_rfl);(focus(first|omega|(simp;omega)));(focus(first|(apply fP;assumption)|exact rfl))))) ?_);exact hW.out)):p:=f ⟨h⟩
theorem Rv{p q:Prop}(h:q)(f:Wq q->p:=by(intro hW;(refine aL1 rfl rfl rfl (by(first|(apply uj;(exact rfl);(focus((apply aE;(conv=>lhs;whnf);(first|done|exact rfl))));(exact rfl);(focus((first|exact fN|exact fL|exact fM|exact wd_pt|exact rfl)));(exact rfl);(kernel_rfl);(kernel_rfl))|(apply ke;(exact rfl);(focus((apply aE;(conv=>lhs;whnf);(first|done|exact rfl))));(focus((repeat(first|exact bn|refine bu _ ?_))));(exact iK);(exact rfl);(exact rfl);(focus((first|exact fN|exact fL|exact fM|exact wd_pt|exact rfl)));(exact rfl);(kernel_rfl);(kernel_rfl))|(apply kR;(exact rfl);(focus((apply aE;(conv=>lhs;whnf);(first|done|exact rfl))));(focus((repeat(first|exact bn|refine bu _ ?_))));(exact rfl);(focus((first|exact iK|(apply oY;assumption)|assumption|exact g1|exact rfl)));(exact rfl);(focus((first|exact fN|exact fL|exact fM|exact wd_pt|exact rfl)));(exact rfl);(kernel_rfl);(kernel_rfl))|(apply d_load_row;(exact rfl);(focus((apply aE;(conv=>lhs;whnf);(first|done|exact rfl))));(focus((repeat(first|exact bn|refine bu _ ?_))));(exact rfl);(focus(first|(apply fP;assumption)|exact rfl));(assumption);(kernel_rfl);(kernel_rfl)))) ?_);exact hW.out)):p:=f ⟨h⟩
theorem Dl{p q:Prop}(h:q)(f:Wq q->p:=by(intro hW;(refine nO ?_;refine vK ?_;refine ff ?_;refine Ej ?_;refine aQ ?_);exact hW.out)):p:=f ⟨h⟩
theorem zb9{p:Prop}(h:p:=by(first|(apply Oa;(exact rfl);(focus((apply aE;(conv=>lhs;whnf);(first|done|exact rfl))));(focus((apply aE;(conv=>lhs;whnf);(first|done|exact rfl))));(kernel_rfl);(kernel_rfl))|(apply UH;(exact rfl);(focus((apply aE;(conv=>lhs;whnf);(first|done|exact rfl))));(focus((apply aE;(conv=>lhs;whnf);(first|done|exact rfl))));(exact rfl);(exact rfl);(focus((first|exact fN|exact fL|exact fM|exact wd_pt|exact rfl)));(focus((first|exact fN|exact fL|exact fM|exact wd_pt|exact rfl)));(kernel_rfl);(kernel_rfl);(exact rfl);(exact rfl)))):p:=h
theorem RF{p q:Prop}(h:q)(f:Wq q->p:=by(intro hW;(refine aL1 rfl rfl rfl zb9 ?_);exact hW.out)):p:=f ⟨h⟩
end
section
open Go.RowKit
namespace DW
section
variable {P : Program} {s : S} {o : Oper}
end
set_option maxRecDepth 20000
set_option maxHeartbeats 4000000
def tck(da:Int)(ma:Mx.Mat)(ea:Int)(db:Int)(mb:Mx.Mat)(eb:Int):Int:=if lck da ma ea≠0 then lck da ma ea else if lck db mb eb≠0 then lck db mb eb else if da=db then 0 else 9
theorem Vr(da ea db eb:Int)(ma mb:Mx.Mat)(CA:Fn Tryz.prog 32 [dL da ma ea] (zI (lck da ma ea)))(CB:Fn Tryz.prog 32 [dL db mb eb] (zI (lck db mb eb))):Fn Tryz.prog 65 [dL da ma ea,dL db mb eb] (zI (tck da ma ea db mb eb)):=by
 by_cases h1:lck da ma ea=0
 ·rw[h1]at CA;by_cases h2:lck db mb eb=0
  ·rw[h2]at CB;by_cases h3:da=db
   ·have EC:tck da ma ea db mb eb=0:=by unfold tck;rw[aj (fun h=>h h1),aj (fun h=>h h2),an h3]
    refine bg Tryz.func65 ah rfl rfl rfl fun X0=>?_;simp only[aP];refine nN ?_;refine kZ ?_;refine jN ?_;refine kZ ?_;refine jN ?_;refine Dl ?_;refine nL ?_;rw[EC];exact⟨_,Sh.refl,.one (.tmp 4) _ rfl (.tmp 4 rfl)⟩
   ·have EC:tck da ma ea db mb eb=9:=by unfold tck;rw[aj (fun h=>h h1),aj (fun h=>h h2),aj h3]
    refine bg Tryz.func65 ah rfl rfl rfl fun X0=>?_;simp only[aP];refine nN ?_;refine kZ ?_;refine jN ?_;refine kZ ?_;refine jN ?_;refine Dl ?_;refine nJ ?_;rw[EC];exact⟨_,Sh.refl,.one (.tmp 4) _ rfl (.tmp 4 rfl)⟩
  ·have EC:tck da ma ea db mb eb=lck db mb eb:=by unfold tck;rw[aj (fun h=>h h1),an h2]
   rw[EC];clear EC;generalize lck db mb eb=C at*;refine bg Tryz.func65 ah rfl rfl rfl fun X0=>?_;simp only[aP];refine nN ?_;refine kZ ?_;refine jN ?_;refine kZ ?_;refine rF ?_;refine ji ?_;exact⟨_,Sh.refl,.one (.tmp 4) _ rfl (.tmp 4 rfl)⟩
 ·have EC:tck da ma ea db mb eb=lck da ma ea:=by unfold tck;rw[an h1]
  rw[EC];clear EC;generalize lck da ma ea=C at*;refine bg Tryz.func65 ah rfl rfl rfl fun X0=>?_;simp only[aP];refine nN ?_;refine kZ ?_;refine rF ?_;refine ji ?_;exact⟨_,Sh.refl,.one (.tmp 4) _ rfl (.tmp 4 rfl)⟩
theorem MH(da ea db eb:Int)(ma mb:Mx.Mat)(CA:Fn Tryz.prog 33 [dL da ma ea] (zI (lck da ma ea)))(CB:Fn Tryz.prog 33 [dL db mb eb] (zI (lck db mb eb))):Fn Tryz.prog 134 [dL da ma ea,dL db mb eb] (zI (tck da ma ea db mb eb)):=by
 obtain⟨A,hA⟩:∃A,A=dL da ma ea:=⟨_,rfl⟩;obtain⟨B,hB⟩:∃B,B=dL db mb eb:=⟨_,rfl⟩;have g0:([dL da ma ea,dL db mb eb]:List D)[((0:Nat):Int).toNat]?=some (dL da ma ea):=rfl;have g1:([dL da ma ea,dL db mb eb]:List D)[((1:Nat):Int).toNat]?=some (dL db mb eb):=rfl;refine bg Tryz.func134 ah rfl rfl rfl fun X0=>?_;simp only[aP];refine nN ?_;refine gar ?_;refine ff ?_;refine ff ?_;refine RF ?_;refine zs5 ?_;refine Dt ?_;refine eX ?_
 (refine av (ay (sl':=[(2,.pt (dL da ma ea)),(3,.pt (dL db mb eb)),(10,.ls (dL da ma ea).wd [dL da ma ea,dL db mb eb]),(11,zI 2),(12,zI 0)]) (ow':=[]) aF aH) ?_)
 refine bh (fun r s=>∃i,i<=2/\r=2-i/\(1<=i->lck da ma ea=0)/\(2<=i->lck db mb eb=0)/\s=⟨[(2,.pt (dL da ma ea)),(3,.pt (dL db mb eb)),(10,.ls (dL da ma ea).wd [dL da ma ea,dL db mb eb]),(11,zI 2),(12,zI (i:Nat))],[]⟩) (m:=2) ⟨0,aO _,rfl,fun h=>by omega,fun h=>by omega,rfl⟩ fun r s hs=>?_;obtain⟨i,hi,rfl,hi1,hi2,rfl⟩:=hs;have hcase:i=0\/i=1\/i=2:=by omega
 rcases hcase with rfl|rfl|rfl
 ·by_cases h1:lck da ma ea=0
  ·rw[h1]at CA;refine jM ?_;refine gar ?_;refine Rz ?_;refine Ry ?_;refine zA ?_;refine jj ?_;refine av (az (k:=6) aX bq bp) ?_;refine zs2 ?_;refine kZ ?_;refine jN ?_;refine nE ?_;simp only[nx,inB];exact⟨2-1,_,by omega,(ay (sl':=[(2,.pt (dL da ma ea)),(3,.pt (dL db mb eb)),(10,.ls (dL da ma ea).wd [dL da ma ea,dL db mb eb]),(11,zI 2),(12,zI ((1:Nat):Int))]) (ow':=[]) aF aH),1,by omega,rfl,fun _=>h1,fun h=>by omega,rfl⟩
  ·have EC:tck da ma ea db mb eb=lck da ma ea:=by unfold tck;rw[an h1]
   rw[EC];clear EC hi1;generalize lck da ma ea=C at*;refine jM ?_;refine gar ?_;refine Rz ?_;refine Ry ?_;refine zA ?_;refine jj ?_;refine av (az (k:=6) aX bq bp) ?_;refine zs2 ?_;refine kZ ?_;refine rF ?_;refine ji ?_;exact⟨_,Sh.refl,.one (.tmp 4) _ rfl (.tmp 4 rfl)⟩
 ·have h1:=hi1 aa;by_cases h2:lck db mb eb=0
  ·rw[h2]at CB;refine jM ?_;refine gar ?_;refine Rx ?_;refine Rv ?_;refine zA ?_;refine jj ?_;refine av (az (k:=6) aX bq bp) ?_;refine zs2 ?_;refine kZ ?_;refine jN ?_;refine nE ?_;simp only[nx,inB];exact⟨2-2,_,by omega,(ay (sl':=[(2,.pt (dL da ma ea)),(3,.pt (dL db mb eb)),(10,.ls (dL da ma ea).wd [dL da ma ea,dL db mb eb]),(11,zI 2),(12,zI ((2:Nat):Int))]) (ow':=[]) aF aH),2,by omega,rfl,fun _=>h1,fun _=>h2,rfl⟩
  ·have EC:tck da ma ea db mb eb=lck db mb eb:=by unfold tck;rw[aj (fun h=>h h1),an h2]
   rw[EC];clear EC hi2;generalize lck db mb eb=C at*;refine jM ?_;refine gar ?_;refine Rx ?_;refine Rv ?_;refine zA ?_;refine jj ?_;refine av (az (k:=6) aX bq bp) ?_;refine zs2 ?_;refine kZ ?_;refine rF ?_;refine ji ?_;exact⟨_,Sh.refl,.one (.tmp 4) _ rfl (.tmp 4 rfl)⟩
 ·have h1:=hi1 aa;have h2:=hi2 aa;by_cases h3:da=db
  ·have EC:tck da ma ea db mb eb=0:=by unfold tck;rw[aj (fun h=>h h1),aj (fun h=>h h2),an h3]
   refine nM ?_;refine Dl ?_;refine nL ?_;rw[EC];exact⟨_,Sh.refl,.one (.tmp 4) _ rfl (.tmp 4 rfl)⟩
  ·have EC:tck da ma ea db mb eb=9:=by unfold tck;rw[aj (fun h=>h h1),aj (fun h=>h h2),aj h3]
   refine nM ?_;refine Dl ?_;refine nJ ?_;rw[EC];exact⟨_,Sh.refl,.one (.tmp 4) _ rfl (.tmp 4 rfl)⟩
end DW
end
section
open Go.RowKit
namespace DW
set_option maxRecDepth 20000
set_option maxHeartbeats 4000000
theorem My(n1 e1 n2 e2 d1 d2 d:Int)(m1 m2 R1 R2 P Q:Mx.Mat)(B1:Fn Tryz.prog 105 [dL n1 m1 e1] (.tp [dW R1,.nm d1]))(B2:Fn Tryz.prog 105 [dL n2 m2 e2] (.tp [dW R2,.nm d2]))(S1:Fn Tryz.prog 108 [dW R1,.nm d2] (dW P))(S2:Fn Tryz.prog 108 [dW R2,.nm d1] (dW Q))(ML:Fn Tryz.prog 84 [.nm d1,.nm d2] (.nm d)):Fn Tryz.prog 138 [dL n1 m1 e1,dL n2 m2 e2] (.tp [dW P,dW Q,.nm d]):=by
 refine bg Tryz.func138 ah rfl rfl rfl fun X0=>?_;simp only[aP];refine zs2 ?_;refine iy ?_;refine uy ?_;refine zs3 ?_;refine zs3 ?_;refine zs82 ?_;refine eX ?_;refine jk ?_;refine pX ?_;refine J0 ?_;refine zs6 ?_;refine jj ?_;refine jk ?_;refine pX ?_;(refine dT (k:=10) (z:=(.agg #[.bool false,.slice none 0 0])) (d:=(.nm 0)) rfl rfl rfl rfl rfl ah ai ai cX ai ai cj ?_);refine zs6 ?_;refine jj ?_;refine av (az (k:=8) aX bq bp) ?_;refine av (az (k:=10) aX bq bp) ?_;refine zs2 ?_;refine rM ?_;refine fZ ?_;refine dH ?_;refine lV ?_;refine fZ ?_;refine dH ?_;refine lV ?_;refine dH ?_;refine dH ?_;refine lV ?_;refine rN ?_;refine rN ?_;refine jP ?_;refine lU ?_;refine zs2 ?_;exact⟨_,az (k:=6) aX bq bp,.three (.tmp 4) (.tmp 5) (.cell 6 62) _ _ _ rfl (.tmp 4 rfl) (.tmp 5 rfl) (.cell 6 _ _ rfl rfl ah ah)⟩
end DW
end
end Go.Proofs.YtcgjmdpcplhanaaGreat
