/- Lemmas for the law: F16 V20 V21 M10 E27 -/
import Derived.Test.YtepdigdijecgpaaGreatZa11
namespace Go.Proofs.YtepdigdijecgpaaGreat
section
theorem GZ{p q:Prop}(h:q)(f:Wq q->p:=by(intro hW;(refine jX ?_;refine zs3 ?_;refine il ?_;refine cw ?_);exact hW.out)):p:=f ⟨h⟩
theorem AU{p q:Prop}(h:q)(f:Wq q->p:=by(intro hW;(refine cJ ?_;refine AI ?_;refine zs3 ?_;refine nT ?_;refine nT ?_;refine wZ ?_;refine zs7 ?_;refine cw ?_);exact hW.out)):p:=f ⟨h⟩
theorem sV{p q:Prop}(h:q)(f:Wq q->p:=by(intro hW;(refine bI ?_;refine zs78 ?_;refine aK ?_);exact hW.out)):p:=f ⟨h⟩
theorem zs173{p q:Prop}(h:q)(f:Wq q->p:=by(intro hW;(refine bI ?_;refine wY ?_;refine ff ?_;refine il ?_;refine cw ?_);exact hW.out)):p:=f ⟨h⟩
theorem zs105{p q:Prop}(h:q)(f:Wq q->p:=by(intro hW;((refine lg (k:=4) (z:=(.agg #[.int .i64 0,.slice none 0 0])) (d:=(.st [.sc (.int .i64 0),.sc (.slice none 0 0)])) rfl rfl rfl rfl rfl ak av av pB av av fE ?_));exact hW.out)):p:=f ⟨h⟩
theorem A5{p q:Prop}(h:q)(f:Wq q->p:=by(intro hW;(refine gar ?_;refine nU ?_;refine zs105 ?_;refine lj ?_;refine aK ?_);exact hW.out)):p:=f ⟨h⟩
theorem A4{p q:Prop}(h:q)(f:Wq q->p:=by(intro hW;(refine gar ?_;refine ff ?_;refine gg ?_;refine cw ?_);exact hW.out)):p:=f ⟨h⟩
theorem wv{p q:Prop}(h:q)(f:Wq q->p:=by(intro hW;(refine zs1 ?_;refine A5 ?_;refine zs1 ?_;refine A4 ?_;refine zs1 ?_;refine sV ?_;refine bc ?_;refine zs173 ?_;refine zs1 ?_;refine sV ?_);exact hW.out)):p:=f ⟨h⟩
theorem oa{p q:Prop}(h:q)(f:Wq q->p:=by(intro hW;((refine Ay (i:=0) rfl rfl rfl ei ei cK av (by first|exact Nat.zero_lt_one|omega|(simp;omega)) av pB av ak zb47 ?_));exact hW.out)):p:=f ⟨h⟩
theorem zs107{p q:Prop}(h:q)(f:Wq q->p:=by(intro hW;(refine aL1 rfl rfl rfl zb27 ?_);exact hW.out)):p:=f ⟨h⟩
theorem GY{p q:Prop}(h:q)(f:Wq q->p:=by(intro hW;(refine nW ?_;refine zs3 ?_;refine zs107 ?_;refine oa ?_;refine lj ?_;refine aK ?_);exact hW.out)):p:=f ⟨h⟩
theorem Hs{p q:Prop}(h:q)(f:Wq q->p:=by(intro hW;((first|(refine aLs rfl rfl rfl rfl ?_ ?_;(focus(apply bF;(conv=>lhs;whnf);(first|done|exact rfl|(apply bA;(first|(apply aq;omega)|(apply ao;omega)|assumption|(simp;done)))))))|refine aLw rfl rfl rfl rfl cZ Bo ?_));exact hW.out)):p:=f ⟨h⟩
theorem zs108{p q:Prop}(h:q)(f:Wq q->p:=by(intro hW;(refine aL1 rfl rfl rfl (by(apply JY;(exact rfl);(assumption);(exact rfl))) ?_);exact hW.out)):p:=f ⟨h⟩
theorem AY{p q:Prop}(h:q)(f:Wq q->p:=by(intro hW;(refine gar ?_;refine zs108 ?_;refine iK ?_;refine aK ?_);exact hW.out)):p:=f ⟨h⟩
theorem AZ{p q:Prop}(h:q)(f:Wq q->p:=by(intro hW;(refine gar ?_;refine ff ?_;refine zs3 ?_;refine il ?_;refine cw ?_);exact hW.out)):p:=f ⟨h⟩
theorem wu{p q:Prop}(h:q)(f:Wq q->p:=by(intro hW;(refine zs1 ?_;refine A5 ?_;refine zs1 ?_;refine AZ ?_;refine zs1 ?_;refine sV ?_);exact hW.out)):p:=f ⟨h⟩
theorem zs110{p q:Prop}(h:q)(f:Wq q->p:=by(intro hW;((refine lg (k:=8) (z:=(.agg #[.int .i64 0,.slice none 0 0])) (d:=(.st [.sc (.int .i64 0),.sc (.slice none 0 0)])) rfl rfl rfl rfl rfl ak av av pB av av fE ?_));exact hW.out)):p:=f ⟨h⟩
theorem zs182{p q:Prop}(h:q)(f:Wq q->p:=by(intro hW;(refine bI ?_;refine uG ?_;refine aK ?_);exact hW.out)):p:=f ⟨h⟩
theorem zs109{p q:Prop}(h:q)(f:Wq q->p:=by(intro hW;((refine lg (k:=5) (z:=(.agg #[.int .i64 0,.slice none 0 0])) (d:=(.st [.sc (.int .i64 0),.sc (.slice none 0 0)])) rfl rfl rfl rfl rfl ak av av pB av av fE ?_));exact hW.out)):p:=f ⟨h⟩
theorem lZ{p q:Prop}(h:q)(f:Wq q->p:=by(intro hW;(refine aL1 rfl rfl rfl (by(apply yU;(exact rfl);(focus((apply aB;(conv=>lhs;whnf);(first|done|exact rfl))));(exact rfl))) ?_);exact hW.out)):p:=f ⟨h⟩
theorem zs181{p q:Prop}(h:q)(f:Wq q->p:=by(intro hW;(refine gar ?_;refine ff ?_;refine gg ?_;refine zs3 ?_;refine gg ?_;refine il ?_;refine zs3 ?_;refine lZ ?_;refine lZ ?_;refine zs109 ?_;refine oa ?_;refine cw ?_);exact hW.out)):p:=f ⟨h⟩
theorem AV{p q:Prop}(h:q)(f:Wq q->p:=by(intro hW;(refine gar ?_;refine ff ?_;refine gg ?_;refine iK ?_;refine zs3 ?_;refine zs5 ?_;refine Hs ?_;refine uE ?_;refine nS ?_;refine aK ?_);exact hW.out)):p:=f ⟨h⟩
theorem AS{p q:Prop}(h:q)(f:Wq q->p:=by(intro hW;(refine qC ?_;refine AY ?_;refine bc ?_;refine AV ?_;refine bc ?_;refine zs181 ?_;refine zs1 ?_;refine A4 ?_;refine zs1 ?_;refine gar ?_;refine zs110 ?_;refine je ?_;refine zs182 ?_);exact hW.out)):p:=f ⟨h⟩
theorem G3{p q:Prop}(h:q)(f:Wq q->p:=by(intro hW;(refine nW ?_;refine wY ?_;refine ff ?_;refine AI ?_;refine zs3 ?_;refine AH ?_;refine nT ?_;refine AH ?_;refine nT ?_;refine wZ ?_;refine zs7 ?_;refine cw ?_);exact hW.out)):p:=f ⟨h⟩
theorem GW{p q:Prop}(h:q)(f:Wq q->p:=by(intro hW;(refine gar ?_;refine ff ?_;refine zs3 ?_;refine il ?_;refine zs3 ?_;refine lZ ?_;refine lZ ?_;refine oa ?_;refine cw ?_);exact hW.out)):p:=f ⟨h⟩
theorem G1{p q:Prop}(h:q)(f:Wq q->p:=by(intro hW;(refine gar ?_;refine ff ?_;refine gg ?_;refine zs3 ?_;refine lZ ?_;refine lZ ?_;refine zs8 ?_;refine cw ?_);exact hW.out)):p:=f ⟨h⟩
theorem qD{p q:Prop}(h:q)(f:Wq q->p:=by(intro hW;(refine bI ?_;refine gg ?_;refine iK ?_;refine aK ?_);exact hW.out)):p:=f ⟨h⟩
theorem Hr{p q:Prop}(h:q)(f:Wq q->p:=by(intro hW;(refine aL1 rfl rfl rfl (by(apply(Gz (z:=(.agg #[.int .i64 0,.slice none 0 0])) (d:=(.st [.sc (.int .i64 0),.sc (.slice none 0 0)])));(exact rfl);(kernel_rfl);(exact rfl);(exact rfl);(exact rfl))) ?_);exact hW.out)):p:=f ⟨h⟩
theorem wz{p q:Prop}(h:q)(f:Wq q->p:=by(intro hW;(refine gar ?_;refine Hr ?_;refine oa ?_;refine lj ?_;refine aK ?_);exact hW.out)):p:=f ⟨h⟩
theorem A3{p q:Prop}(h:q)(f:Wq q->p:=by(intro hW;(refine gar ?_;refine Hr ?_;refine zs3 ?_;refine oa ?_;refine cw ?_);exact hW.out)):p:=f ⟨h⟩
theorem zs102{p q:Prop}(h:q)(f:Wq q->p:=by(intro hW;((refine lg (k:=3) (z:=(.agg #[.bool false,.slice none 0 0])) (d:=(.nm 0)) rfl rfl rfl rfl rfl ak av av pB av av fE ?_));exact hW.out)):p:=f ⟨h⟩
theorem G2{p q:Prop}(h:q)(f:Wq q->p:=by(intro hW;(refine bI ?_;refine gg ?_;refine zs3 ?_;refine lZ ?_;refine lZ ?_;refine zs102 ?_;refine oa ?_;refine cw ?_);exact hW.out)):p:=f ⟨h⟩
end
section
open Go.RowKit
namespace DW
abbrev zF0:D:=.st [zI 0,.sc (.slice none 0 0)]
theorem Ie{X:Nat->Prop}{w:World}{v:Value}(h:AR X w zF0 v):AR X w (qF 0 []) v:=by
 simp only[AR,ASt]at h;obtain⟨cs,rfl,u1,r1,e1,⟨h1,_⟩,f1,u2,r2,e2,⟨h2,_⟩,f2,e3⟩:=h;subst h1;subst h2;simp only[AR,ASt];refine⟨cs,rfl,_,_,e1,⟨rfl,rfl⟩,rfl,_,_,e2,?_,rfl,e3⟩;simp only[gy];exact⟨none,0,rfl,af _,.inl aY⟩
section
variable {P : Program} {s : S} {o : Oper}
theorem Gw{T:TypeId}{x:Operand}{m:Mx.Mat}(ho:o.op= .build T #[(1,x)])(hx:s.op x=dM m)(hb:∀a n c,P.built T [(1,.slice a n c)]=some #[.int .i64 0,.slice a n c]):bj P o s (qF 0 m):=fun X f a w base _ _ hh=>by
 have h1:=hh x bC;rw[hx]at h1;have h2:AR X w (dM m) (a.eval x):=h1;have h3:=h2;simp only[AR]at h3;obtain⟨ad,c,e,_⟩:=h3;rw[e]at h2;refine cO (u:=.agg #[.int .i64 0,.slice ad (m.map fun l=>dI l).length c]) ?_ (by
  show AR X w (qF 0 m) _;simp only[AR,ASt];refine⟨_,rfl,.int .i64 (0),_,rfl,⟨rfl,rfl⟩,rfl,.slice ad (m.map fun l=>dI l).length c,[],rfl,?_,rfl,rfl⟩;simpa only[AR]using h2)
 unfold execOp;rw[ho];have:=run_build (P:=P) w T #[(1,a.eval x)] _ (by rw[e];exact hb ad _ c);simp only[og,dw,gy];rw[Sem.run_bind,this];rfl
end
set_option maxRecDepth 20000
set_option maxHeartbeats 2000000
theorem zO(N M:Int)(g h:Mx.Mat)(hg:g.length<=1000000)(hr:∀l∈g,l.length<=1000000):Fn Tryz.prog 53 [qF N g,qF M h] (.sc (.bool (decide (N=M)&&decide (g=h)))):=by
 have LS:=JC g h aa (fun l hl=>by have:=hr l hl;omega);by_cases hn:N=M
 ·have hd:decide (N=M)=true:=aq hn;rw[hd,fR];refine aF Tryz.func53 ak rfl rfl rfl fun X0=>?_;simp only[aA];refine zs1 ?_;refine gar ?_;refine nU ?_;refine nU ?_;refine zs2 ?_;refine je ?_;refine G3 ?_;refine zs1 ?_;exact⟨_,Sh.refl,.one (.tmp 4) _ rfl (.tmp 4 rfl)⟩
 ·have hd:decide (N=M)=false:=ao hn;rw[hd,nq];refine aF Tryz.func53 ak rfl rfl rfl fun X0=>?_;simp only[aA];refine zs1 ?_;refine gar ?_;refine nU ?_;refine nU ?_;refine zs2 ?_;refine je ?_;refine G3 ?_;refine zs1 ?_;exact⟨_,Sh.refl,.one (.tmp 4) _ rfl (.tmp 4 rfl)⟩
theorem DQ:Fn Tryz.prog 53 [zF0,zF0] (.sc (.bool true)):=by
 have h:=zO 0 0 [] [] aY (fun l hl=>by cases hl);rw[aq rfl,aq rfl,te]at h;refine h.wk fun X w vs h=>?_;simp only[ATp]at h⊢;obtain⟨u,rest,e,h1,u2,rest2,e2,h2,e3⟩:=h;exact⟨u,rest,e,Ie h1,u2,rest2,e2,Ie h2,e3⟩
theorem zN(t:Mx.Mat):Fn Tryz.prog 74 [dM t] (.sc (.bool (sm6 t))):=by
 have SM:=se 0 t;refine aF Tryz.func74 ak rfl rfl rfl fun X0=>?_;simp only[aA];refine cX ?_;refine gar ?_;refine aL1 rfl rfl rfl (by(apply ur;(exact rfl);(exact rfl))) ?_;refine aL1 rfl rfl rfl (Gw (m:=t) rfl rfl (fun _ _ _=>by kernel_rfl)) ?_;refine aL1 rfl rfl rfl (by(apply vC;(exact rfl);(exact rfl);(exact rfl);(exact SM);(exact rfl))) ?_;refine aL1 rfl rfl rfl (by(apply lQ;(exact rfl);(exact rfl))) ?_;refine aK ?_;refine zs1 ?_;exact⟨_,Sh.refl,.one (.tmp 2) _ rfl (.tmp 2 rfl)⟩
theorem E9(t:Mx.Mat)(d:Int)(DT:Fn Tryz.prog 41 [dM t] (.tp [.nm d,zI 0]))(SD:Fn Tryz.prog 251 [.nm d] (.tp [zI (smv d),.sc (.bool (decide (I64 d)))])):Fn Tryz.prog 204 [dM t] (.sc (.bool (unB d))):=by
 by_cases hi:I64 d
 ·rw[show smv d=d from aj hi,aq hi]at SD;have SZ:=zT d;have EC:unB d=decide (szw d=1):=by
   unfold unB;by_cases h:d.natAbs<=9223372036854775807
   ·rw[IG h,decide_eq_decide];omega
   ·have:d= -9223372036854775808:=by unfold I64 at hi;omega
    subst this;clear DT SD SZ;decide+kernel
  rw[EC];clear EC hi;generalize szw d=y at*;refine aF Tryz.func204 ak rfl rfl rfl fun X0=>?_;simp only[aA];refine cX ?_;refine G2 ?_;refine zs1 ?_;refine G1 ?_;refine zs1 ?_;refine cJ ?_;refine zs5 ?_;refine Hs ?_;refine AE ?_;refine zs7 ?_;refine dC ?_;exact⟨_,bN (k:=3) cK dX dV,.one (.tmp 2) _ rfl (.tmp 2 rfl)⟩
 ·rw[ao hi]at SD;have EC:unB d=false:=by
   unfold unB;exact ao fun h=>hi (by unfold I64;omega)
  rw[EC];generalize smv d=y at*;refine aF Tryz.func204 ak rfl rfl rfl fun X0=>?_;simp only[aA];refine cX ?_;refine G2 ?_;refine zs1 ?_;refine G1 ?_;refine zs1 ?_;refine cJ ?_;refine zs5 ?_;(first|(refine aLs rfl rfl rfl rfl ?_ ?_;(focus(apply bF;(conv=>lhs;whnf);(first|done|exact rfl|(apply bA;(first|(apply aq;omega)|(apply ao;omega)|assumption|(simp;done)))))))|refine aLw rfl rfl rfl rfl cZ (by(apply vC;(exact rfl);(focus((apply aB;(conv=>lhs;whnf);(first|done|exact rfl))));(exact rfl);(focus((first|exact fail)));(exact rfl))) ?_);refine AE ?_;refine zs7 ?_;refine dC ?_;exact⟨_,bN (k:=3) cK dX dV,.one (.tmp 2) _ rfl (.tmp 2 rfl)⟩
theorem qap_e(N C:Int)(g t:Mx.Mat)(hC:C≠0)(CK:Fn Tryz.prog 47 [qF N g] (zI C)):Fn Tryz.prog 75 [qF N g,dM t] (.tp [zF0,zI C]):=by
 refine aF Tryz.func75 ak rfl rfl rfl fun X0=>?_;simp only[aA];refine zs1 ?_;refine A5 ?_;refine zs1 ?_;refine A4 ?_;refine zs1 ?_;refine sV ?_;refine cq ?_;refine A3 ?_;refine zs1 ?_;exact⟨_,bN (k:=4) cK dX dV,.two (.cell 4 79) (.tmp 5) _ _ rfl (.cell 4 _ _ rfl rfl ak ak) (.tmp 5 rfl)⟩
theorem qap_t(N C:Int)(g t:Mx.Mat)(hC:C≠0)(CK:Fn Tryz.prog 47 [qF N g] (zI 0))(CM:Fn Tryz.prog 203 [dM t,zI N] (zI C)):Fn Tryz.prog 75 [qF N g,dM t] (.tp [zF0,zI C]):=by
 refine aF Tryz.func75 ak rfl rfl rfl fun X0=>?_;simp only[aA];refine wv ?_;refine cq ?_;refine A3 ?_;refine zs1 ?_;exact⟨_,bN (k:=4) cK dX dV,.two (.cell 4 79) (.tmp 5) _ _ rfl (.cell 4 _ _ rfl rfl ak ak) (.tmp 5 rfl)⟩
theorem qap_u(N:Int)(g t:Mx.Mat)(CK:Fn Tryz.prog 47 [qF N g] (zI 0))(CM:Fn Tryz.prog 203 [dM t,zI N] (zI 0))(UM:Fn Tryz.prog 204 [dM t] (.sc (.bool false))):Fn Tryz.prog 75 [qF N g,dM t] (.tp [zF0,zI 3]):=by
 refine aF Tryz.func75 ak rfl rfl rfl fun X0=>?_;simp only[aA];refine wv ?_;refine bc ?_;refine qD ?_;refine cq ?_;refine wz ?_;refine zs1 ?_;exact⟨_,bN (k:=4) cK dX dV,.two (.cell 4 79) (.tmp 5) _ _ rfl (.cell 4 _ _ rfl rfl ak ak) (.tmp 5 rfl)⟩
theorem qap_l(N:Int)(g t M:Mx.Mat)(CK:Fn Tryz.prog 47 [qF N g] (zI 0))(CM:Fn Tryz.prog 203 [dM t,zI N] (zI 0))(UM:Fn Tryz.prog 204 [dM t] (.sc (.bool true)))(TK:Fn Tryz.prog 181 [dM g,dM t] (dM M))(BD:Fn Tryz.prog 166 [dM M,zI 1000] (.sc (.bool false))):Fn Tryz.prog 75 [qF N g,dM t] (.tp [zF0,zI 8]):=by
 refine aF Tryz.func75 ak rfl rfl rfl fun X0=>?_;simp only[aA];refine wv ?_;refine bc ?_;refine qD ?_;refine bc ?_;refine GZ ?_;refine zs1 ?_;refine qE ?_;refine cq ?_;refine wz ?_;refine zs1 ?_;exact⟨_,bN (k:=4) cK dX dV,.two (.cell 4 79) (.tmp 5) _ _ rfl (.cell 4 _ _ rfl rfl ak ak) (.tmp 5 rfl)⟩
theorem qap_o(N:Int)(g t M:Mx.Mat)(CK:Fn Tryz.prog 47 [qF N g] (zI 0))(CM:Fn Tryz.prog 203 [dM t,zI N] (zI 0))(UM:Fn Tryz.prog 204 [dM t] (.sc (.bool true)))(TK:Fn Tryz.prog 181 [dM g,dM t] (dM M))(BD:Fn Tryz.prog 166 [dM M,zI 1000] (.sc (.bool true))):Fn Tryz.prog 75 [qF N g,dM t] (.tp [qF N M,zI 0]):=by
 refine aF Tryz.func75 ak rfl rfl rfl fun X0=>?_;simp only[aA];refine wv ?_;refine bc ?_;refine qD ?_;refine bc ?_;refine GZ ?_;refine zs1 ?_;refine qE ?_;refine bc ?_;refine GY ?_;refine zs1 ?_;exact⟨_,bN (k:=4) cK dX dV,.two (.cell 4 79) (.tmp 5) _ _ rfl (.cell 4 _ _ rfl rfl ak ak) (.tmp 5 rfl)⟩
theorem rap_t(N C:Int)(g t:Mx.Mat)(hC:C≠0)(CM:Fn Tryz.prog 193 [qF N g,dM t] (zI C)):Fn Tryz.prog 77 [qF N g,dM t] (.tp [zF0,zI C]):=by
 refine aF Tryz.func77 ak rfl rfl rfl fun X0=>?_;simp only[aA];refine wu ?_;refine cq ?_;refine A3 ?_;refine zs1 ?_;exact⟨_,bN (k:=4) cK dX dV,.two (.cell 4 79) (.tmp 5) _ _ rfl (.cell 4 _ _ rfl rfl ak ak) (.tmp 5 rfl)⟩
theorem rap_u(N:Int)(g t:Mx.Mat)(CM:Fn Tryz.prog 193 [qF N g,dM t] (zI 0))(UM:Fn Tryz.prog 194 [dM t] (.sc (.bool false))):Fn Tryz.prog 77 [qF N g,dM t] (.tp [zF0,zI 3]):=by
 refine aF Tryz.func77 ak rfl rfl rfl fun X0=>?_;simp only[aA];refine wu ?_;refine bc ?_;refine qD ?_;refine cq ?_;refine wz ?_;refine zs1 ?_;exact⟨_,bN (k:=4) cK dX dV,.two (.cell 4 79) (.tmp 5) _ _ rfl (.cell 4 _ _ rfl rfl ak ak) (.tmp 5 rfl)⟩
theorem rap_l(N:Int)(g t M:Mx.Mat)(CM:Fn Tryz.prog 193 [qF N g,dM t] (zI 0))(UM:Fn Tryz.prog 194 [dM t] (.sc (.bool true)))(TK:Fn Tryz.prog 185 [qF N g,dM t] (dM M))(BD:Fn Tryz.prog 86 [dM M,zI 1000] (.sc (.bool false))):Fn Tryz.prog 77 [qF N g,dM t] (.tp [zF0,zI 8]):=by
 refine aF Tryz.func77 ak rfl rfl rfl fun X0=>?_;simp only[aA];refine wu ?_;refine bc ?_;refine qD ?_;refine bc ?_;refine AZ ?_;refine zs1 ?_;refine qE ?_;refine cq ?_;refine wz ?_;refine zs1 ?_;exact⟨_,bN (k:=4) cK dX dV,.two (.cell 4 79) (.tmp 5) _ _ rfl (.cell 4 _ _ rfl rfl ak ak) (.tmp 5 rfl)⟩
theorem rap_o(N:Int)(g t M:Mx.Mat)(CM:Fn Tryz.prog 193 [qF N g,dM t] (zI 0))(UM:Fn Tryz.prog 194 [dM t] (.sc (.bool true)))(TK:Fn Tryz.prog 185 [qF N g,dM t] (dM M))(BD:Fn Tryz.prog 86 [dM M,zI 1000] (.sc (.bool true))):Fn Tryz.prog 77 [qF N g,dM t] (.tp [qF N M,zI 0]):=by
 refine aF Tryz.func77 ak rfl rfl rfl fun X0=>?_;simp only[aA];refine wu ?_;refine bc ?_;refine qD ?_;refine bc ?_;refine AZ ?_;refine zs1 ?_;refine qE ?_;refine bc ?_;refine GY ?_;refine zs1 ?_;exact⟨_,bN (k:=4) cK dX dV,.two (.cell 4 79) (.tmp 5) _ _ rfl (.cell 4 _ _ rfl rfl ak ak) (.tmp 5 rfl)⟩
theorem Gf(N:Int)(g t:Mx.Mat)(h:(sm6 g&&sm6 t)=false):Fn Tryz.prog 13 [qF N g,dM t] (.sc (.bool true)):=by
 have AW:=pr;have SM:=se N g;have ST:=zN t
 cases hs:sm6 g with
 |false=>
  rw[hs]at SM;refine aF Tryz.func13 ak rfl rfl rfl fun X0=>?_;simp only[aA];refine qC ?_;refine AY ?_;refine bc ?_;refine AV ?_;refine jf ?_;exact⟨_,Sh.refl,.one (.tmp 4) _ rfl (.tmp 4 rfl)⟩
 |true=>
  rw[hs]at SM;rw[hs,fR]at h;rw[h]at ST;refine aF Tryz.func13 ak rfl rfl rfl fun X0=>?_;simp only[aA];refine qC ?_;refine AY ?_;refine bc ?_;refine AV ?_;refine jf ?_;exact⟨_,Sh.refl,.one (.tmp 4) _ rfl (.tmp 4 rfl)⟩
theorem JG(N C:Int)(g t:Mx.Mat)(hC:C≠0)(SM:Fn Tryz.prog 46 [qF N g] (.sc (.bool true)))(ST:Fn Tryz.prog 74 [dM t] (.sc (.bool true)))(CP:Fn Tryz.prog 48 [qF N g] (qF N g))(CL:Fn Tryz.prog 76 [dM t] (dM t))(PA:Fn Tryz.prog 75 [qF N g,dM t] (.tp [zF0,zI C]))(RC:Fn Tryz.prog 49 [qF N g] (zI C)):Fn Tryz.prog 13 [qF N g,dM t] (.sc (.bool true)):=by
 have AW:=pr;have SZ:=DQ;have hd:decide (C=0)=false:=ao hC;have hCC:decide (C=C)=true:=aq rfl;refine aF Tryz.func13 ak rfl rfl rfl fun X0=>?_;simp only[aA];refine AS ?_;refine bc ?_;refine AU ?_;refine zs1 ?_;exact⟨_,Sh.refl,.one (.tmp 4) _ rfl (.tmp 4 rfl)⟩
theorem vp(N C:Int)(g t:Mx.Mat)(SM:Fn Tryz.prog 46 [qF N g] (.sc (.bool true)))(ST:Fn Tryz.prog 74 [dM t] (.sc (.bool true)))(CP:Fn Tryz.prog 48 [qF N g] (qF N g))(CL:Fn Tryz.prog 76 [dM t] (dM t))(PA:Fn Tryz.prog 75 [qF N g,dM t] (.tp [zF0,zI C]))(RC:Fn Tryz.prog 49 [qF N g] (zI 0))(RA:Fn Tryz.prog 77 [qF N g,dM t] (.tp [zF0,zI C])):Fn Tryz.prog 13 [qF N g,dM t] (.sc (.bool true)):=by
 have AW:=pr;have SZ:=DQ;have hCC:decide ((C:Int)=C)=true:=aq rfl;refine aF Tryz.func13 ak rfl rfl rfl fun X0=>?_;simp only[aA];refine AS ?_;refine cq ?_;refine GW ?_;refine zs1 ?_;refine AU ?_;refine zs1 ?_;exact⟨_,Sh.refl,.one (.tmp 4) _ rfl (.tmp 4 rfl)⟩
theorem JF(N:Int)(g t M:Mx.Mat)(SZ:Fn Tryz.prog 53 [qF N M,qF N M] (.sc (.bool true)))(SM:Fn Tryz.prog 46 [qF N g] (.sc (.bool true)))(ST:Fn Tryz.prog 74 [dM t] (.sc (.bool true)))(CP:Fn Tryz.prog 48 [qF N g] (qF N g))(CL:Fn Tryz.prog 76 [dM t] (dM t))(PA:Fn Tryz.prog 75 [qF N g,dM t] (.tp [qF N M,zI 0]))(RC:Fn Tryz.prog 49 [qF N g] (zI 0))(RA:Fn Tryz.prog 77 [qF N g,dM t] (.tp [qF N M,zI 0])):Fn Tryz.prog 13 [qF N g,dM t] (.sc (.bool true)):=by
 have AW:=pr;have hCC:decide ((0:Int)=0)=true:=aq rfl;refine aF Tryz.func13 ak rfl rfl rfl fun X0=>?_;simp only[aA];refine AS ?_;refine cq ?_;refine GW ?_;refine zs1 ?_;refine AU ?_;refine zs1 ?_;exact⟨_,Sh.refl,.one (.tmp 4) _ rfl (.tmp 4 rfl)⟩
end DW
end
section
open Go.RowKit Go.BigFrame
attribute [local go_sem ↓] Go.wp_at_zero Go.wp_at_succ
namespace Mx
end Mx
def HT(m:Mx.Mat):Nat×Mx.Mat:=Mx.red (wid m) 0 (0,extM m)
end
section
open Go.RowKit Go.BigFrame
attribute [local go_sem ↓] Go.wp_at_zero Go.wp_at_succ
theorem JW(M:Mx.Mat)(k i:Nat):Mx.rw (M.drop k) i=Mx.rw M (k+i):=by
 unfold Mx.rw;rw[aH,aH,fU]
theorem MR.drop{w:World}{g o L cap n k:Nat}{M:Mx.Mat}(h:MR w (.slice (some ⟨g,o,none⟩) L cap) n M)(hk:k<L):MR w (.slice (some ⟨g,o+k,none⟩) (L-k) (cap-k)) n (M.drop k):=by
 obtain⟨a',c',e,h2,h3,h4⟩:=h;cases e;have hl:(M.drop k).length=M.length-k:=ep;refine⟨_,_,by rw[hl],by omega,fun r hr=>h3 r (Bx hr),.inr ?_⟩;rcases h4 with h4|⟨g',o',e,h5,h6⟩
 ·rw[h4]at hk;simp at hk
 ·cases e;refine⟨g,o+k,rfl,h5,fun i hi=>?_⟩;rw[hl]at hi;obtain⟨b,c,c1,c2⟩:=h6 (k+i) aa;rw[JW];refine⟨b,c,?_,c2⟩;rw[mq];exact c1
end
section
namespace Mx
theorem Mq{n i:Nat}(hi:i<n)(f:Nat->Nat->Int)(h:∀l,l<n->f i l=0):D n f=0:=by
 have h1:=rH 0 0 n f i (f i) (f i) hi;rw[cE n _ f fun k j hk hj=>by
  unfold upd;split
  ·next e=>rw[e,h j hj];show 0*f i j+0*f i j=0;omega
  ·rfl]at h1
 rw[h1];omega
end Mx
end
section
open Go.RowKit
namespace DW
theorem Aw(b o j:Nat):(⟨b,o,none⟩:Addr).add j=⟨b,o+j,none⟩:=Addr.add_mid b o j
theorem Kg{X:Nat->Prop}{w:World}{l:List Int}{v:Value}(h:AR X w (dI l) v):∃a c,v= .slice a l.length c/\l.length<=c/\ZAt w a l:=by
 simp only[dI,AR]at h;obtain⟨a,c,rfl,h2,h3⟩:=h;rw[br]at h2;refine⟨a,c,by rw[br],h2,?_⟩;rcases h3 with h3|⟨b,o,rfl,_,hb,hs⟩
 ·exact .inl (by simpa using h3)
 ·refine .inr ⟨⟨b,o,none⟩,rfl,hb,fun k x hk=>?_⟩;obtain⟨u,h4,_,_,h7⟩:=ARs.at hs (i:=k) (d:=zI x) (by rw[cR,hk];rfl);simp only[AR]at h4;obtain⟨rfl,_⟩:=h4;have:=h7 0 (.int .i64 x) rfl;rw[Aw];simpa using this
theorem zk{X:Nat->Prop}{w:World}{m:List (List Int)}{v:Value}(h:AR X w (dM m) v):ZM w v m:=by
 simp only[dM,AR]at h;obtain⟨a,c,rfl,h2,h3⟩:=h;rw[br]at h2;refine⟨a,c,by rw[br],h2,?_⟩;rcases h3 with h3|⟨b,o,rfl,_,hb,hs⟩
 ·exact .inl (by simpa using h3)
 ·refine .inr ⟨⟨b,o,none⟩,rfl,hb,fun k l hk=>?_⟩;obtain⟨u,h4,_,_,h7⟩:=ARs.at hs (i:=k) (d:=dI l) (by rw[cR,hk];rfl);obtain⟨a',c',rfl,h8,h9⟩:=Kg h4;have:=h7 0 _ rfl;rw[Aw];exact⟨a',c',by simpa using this,h8,h9⟩
theorem ar_n{X:Nat->Prop}{w:World}(z:Int):AR X w (zI z) (.int .i64 z):=by simp only[zI,AR];exact⟨trivial,rfl⟩
theorem L2{X:Nat->Prop}{w:World}{d1 d2:D}{u1 u2:Value}(h1:AR X w d1 u1)(h2:AR X w d2 u2):AR X w (.tp [d1,d2]) (.tuple #[u1,u2]):=by
 simp only[AR,ATp];exact⟨_,rfl,_,_,rfl,h1,_,_,rfl,h2,rfl⟩
end DW
end
end Go.Proofs.YtepdigdijecgpaaGreat
