/- Lemmas for the law: E1 E2 E3 E4 -/
import Derived.Test.YtcgjmdpcplhanaaGreatZv2
namespace Go.Proofs.YtcgjmdpcplhanaaGreat
section
abbrev aA:=@decide_eq_false
abbrev ay:=@decide_eq_true
abbrev my:=@List.take_append_of_le_length
abbrev en:=@List.length_nil
abbrev dC:=@List.map_append
abbrev mu:=@Nat.le_mul_of_pos_right
theorem zb7{p:Prop}(h:p:=by(first|(apply(zB (q':=.i64));(exact rfl);(focus((apply aw;(conv=>lhs;whnf);(first|done|exact rfl))));(kernel_rfl);(kernel_rfl);(focus(first|(apply rU;(try simp only[]);omega)|exact rfl)))|(apply(zB (q':=.u32));(exact rfl);(focus((apply aw;(conv=>lhs;whnf);(first|done|exact rfl))));(kernel_rfl);(kernel_rfl);(focus(first|(apply rU;(try simp only[]);omega)|exact rfl)))|(apply(zB (q':=.u64));(exact rfl);(focus((apply aw;(conv=>lhs;whnf);(first|done|exact rfl))));(kernel_rfl);(kernel_rfl);(focus(first|(apply rU;(try simp only[]);omega)|exact rfl))))):p:=h
theorem an{p:Prop}(h:p:=by exact rfl):p:=h
theorem zs28{p q:Prop}(h:q)(f:Wq q->p:=by(intro hW;((first|refine eK rfl rfl rfl an zb7 an an ?_|((try refine aS ?_);refine aL1 rfl rfl rfl zb7 ?_)));exact hW.out)):p:=f ⟨h⟩
theorem vk{p:Prop}(h:p:=by simp only[];omega):p:=h
theorem zb26{p:Prop}(h:p:=by first|with_reducible rfl|exact uq aa|exact uq vk|exact uq aU|(apply uq;omega)|(apply bj;(first|(apply aA;omega)|(apply ay;omega)|(simp<;>omega)))):p:=h
theorem jN{p:Prop}(h:p:=by(apply bF;(conv=>lhs;whnf);(first|done|exact rfl))):p:=h
theorem aE{p:Prop}(h:p:=by(repeat(first|exact JK|refine Gk jN zb26 ?_))):p:=h
theorem mn{p q:Prop}(h:q)(f:Wq q->p:=by(intro hW;((apply nH;(focus(first|(apply aw;(conv=>lhs;whnf);(first|done|exact rfl))|with_reducible exact bW|with_reducible exact jD|with_reducible exact jC|exact op_zero));(focus(first|with_reducible rfl|(apply aA;omega)|assumption|(simp<;>omega)))));exact hW.out)):p:=f ⟨h⟩
theorem qo{p:Prop}(h:p:=by(apply Fz;(exact rfl);(focus((apply aw;(conv=>lhs;whnf);(first|done|exact rfl)))))):p:=h
theorem zs3{p q:Prop}(h:q)(f:Wq q->p:=by(intro hW;(refine aL1 rfl rfl rfl qo ?_);exact hW.out)):p:=f ⟨h⟩
theorem ct{p q:Prop}(h:q)(f:Wq q->p:=by(intro hW;(refine gar ?_;refine zs3 ?_);exact hW.out)):p:=f ⟨h⟩
theorem zs43{p q:Prop}(h:q)(f:Wq q->p:=by(intro hW;(refine aL1 rfl rfl rfl (by(apply oI;(exact rfl);(focus((apply aw;(conv=>lhs;whnf);(first|done|exact rfl))));(focus((apply aw;(conv=>lhs;whnf);(first|done|exact rfl))));(exact rfl);(exact rfl);(focus((first|exact M l aa h1 h2)));(exact rfl))) ?_);exact hW.out)):p:=f ⟨h⟩
theorem vg{p q:Prop}(h:q)(f:Wq q->p:=by(intro hW;(refine aL1 rfl rfl rfl (by(first|(apply Jj;(exact rfl);(focus((apply aw;(conv=>lhs;whnf);(first|done|exact rfl))));(exact bW);(omega))|(apply dT;(exact rfl);(focus((apply aw;(conv=>lhs;whnf);(first|done|exact rfl))));(exact bW);(exact rfl)))) ?_);exact hW.out)):p:=f ⟨h⟩
theorem zb39{p:Prop}(h:p:=by(apply pU;(exact rfl);(focus((apply aw;(conv=>lhs;whnf);(first|done|exact rfl)))))):p:=h
theorem zs5{p q:Prop}(h:q)(f:Wq q->p:=by(intro hW;(refine aL1 rfl rfl rfl zb39 ?_);exact hW.out)):p:=f ⟨h⟩
theorem dJ{p q:Prop}(h:q)(f:Wq q->p:=by(intro hW;(refine zs5 ?_;refine ba ?_);exact hW.out)):p:=f ⟨h⟩
theorem tK{p q:Prop}(h:q)(f:Wq q->p:=by(intro hW;(refine ct ?_;refine vg ?_;refine dJ ?_);exact hW.out)):p:=f ⟨h⟩
theorem zs1{p q:Prop}(h:q)(f:Wq q->p:=by(intro hW;(repeat(first|refine Ht ?_|refine Hv ?_|refine KY ?_|refine KZ ?_|refine MK ?_|with_reducible refine nx_c ?_|with_reducible refine nx_e ?_|with_reducible refine nx_r ?_|with_reducible refine in_n ?_|with_reducible refine in_r ?_|with_reducible refine in_e ?_|with_reducible refine in_x an ?_));exact hW.out)):p:=f ⟨h⟩
theorem jf{p q:Prop}(h:q)(f:Wq q->p:=by(intro hW;(refine tK ?_;refine zs1 ?_);exact hW.out)):p:=f ⟨h⟩
theorem je{p q:Prop}(h:q)(f:Wq q->p:=by(intro hW;(refine zs1 ?_;refine jf ?_);exact hW.out)):p:=f ⟨h⟩
theorem zb3{p:Prop}(h:p:=by(first|(apply kr;(exact rfl);(focus((apply aw;(conv=>lhs;whnf);(first|done|exact rfl))));(focus((apply aw;(conv=>lhs;whnf);(first|done|exact rfl))));(kernel_rfl);(kernel_rfl);(omega);(focus((first|(apply yQ;(focus assumption);(focus assumption))|(apply get_map;assumption)|(apply get_own;assumption)))))|(apply ja;(exact rfl);(focus((apply aw;(conv=>lhs;whnf);(first|done|exact rfl))));(focus((apply aw;(conv=>lhs;whnf);(first|done|exact rfl))));(focus((repeat(first|exact br|refine bz _ ?_))));(kernel_rfl);(kernel_rfl);(focus(first|omega|(simp;omega)));(focus(first|(apply fM;assumption)|exact rfl))))):p:=h
theorem zs54{p q:Prop}(h:q)(f:Wq q->p:=by(intro hW;((first|refine eK rfl rfl rfl an zb3 an an ?_|((try refine aS ?_);refine aL1 rfl rfl rfl zb3 ?_)));exact hW.out)):p:=f ⟨h⟩
theorem zb0{p:Prop}(h:p:=by(first|(apply uQ;(exact rfl);(focus((apply aw;(conv=>lhs;whnf);(first|done|exact rfl))));(exact rfl);(focus((first|exact gD|exact gB|exact gC|exact wd_pt|exact rfl)));(exact rfl);(kernel_rfl);(kernel_rfl))|(apply ku;(exact rfl);(focus((apply aw;(conv=>lhs;whnf);(first|done|exact rfl))));(focus((repeat(first|exact br|refine bz _ ?_))));(exact jG);(exact rfl);(exact rfl);(focus((first|exact gD|exact gB|exact gC|exact wd_pt|exact rfl)));(exact rfl);(kernel_rfl);(kernel_rfl))|(apply lp;(exact rfl);(focus((apply aw;(conv=>lhs;whnf);(first|done|exact rfl))));(focus((repeat(first|exact br|refine bz _ ?_))));(exact rfl);(focus((first|exact jG|(apply pL;assumption)|assumption|(apply yQ;(focus assumption);(focus assumption))|exact rfl)));(exact rfl);(focus((first|exact gD|exact gB|exact gC|exact wd_pt|exact rfl)));(exact rfl);(kernel_rfl);(kernel_rfl))|(apply d_load_row;(exact rfl);(focus((apply aw;(conv=>lhs;whnf);(first|done|exact rfl))));(focus((repeat(first|exact br|refine bz _ ?_))));(exact rfl);(focus(first|(apply fM;assumption)|exact rfl));(assumption);(kernel_rfl);(kernel_rfl)))):p:=h
theorem zs55{p q:Prop}(h:q)(f:Wq q->p:=by(intro hW;((first|refine eK rfl rfl rfl an zb0 an an ?_|((try refine aS ?_);refine aL1 rfl rfl rfl zb0 ?_)));exact hW.out)):p:=f ⟨h⟩
theorem fJ{p q:Prop}(h:q)(f:Wq q->p:=by(intro hW;((first|refine eK rfl rfl rfl an qo an an ?_|((try refine aS ?_);refine aL1 rfl rfl rfl qo ?_)));exact hW.out)):p:=f ⟨h⟩
theorem tI{p q:Prop}(h:q)(f:Wq q->p:=by(intro hW;(refine fJ ?_;refine fJ ?_;refine zs54 ?_;refine zs55 ?_);exact hW.out)):p:=f ⟨h⟩
theorem gS{p q:Prop}(h:q)(f:Wq q->p:=by(intro hW;((try refine aS ?_);refine ba ?_);exact hW.out)):p:=f ⟨h⟩
theorem zs53{p q:Prop}(h:q)(f:Wq q->p:=by(intro hW;((first|(apply ao 8;(focus kernel_rfl);(decide+kernel))|(apply ao 7;(focus kernel_rfl);(decide+kernel))|(apply ao 6;(focus kernel_rfl);(decide+kernel))|(apply ao 5;(focus kernel_rfl);(decide+kernel))|(apply ao 4;(focus kernel_rfl);(decide+kernel))|(apply ao 3;(focus kernel_rfl);(decide+kernel))|(apply ao 2;(focus kernel_rfl);(decide+kernel))|(apply ao 1;(focus kernel_rfl);(decide+kernel)));simp only[eZ,eE,fF,eO]);exact hW.out)):p:=f ⟨h⟩
theorem B5{p:Prop}(h:p:=by(first|(apply dT;(exact rfl);(focus((apply aw;(conv=>lhs;whnf);(first|done|exact rfl))));(focus((apply aw;(conv=>lhs;whnf);(first|done|exact rfl))));(exact rfl))|(apply Jg;(exact rfl);(focus((apply aw;(conv=>lhs;whnf);(first|done|exact rfl))));(focus((apply aw;(conv=>lhs;whnf);(first|done|exact rfl))));(kernel_rfl)))):p:=h
theorem Bl{p q:Prop}(h:q)(f:Wq q->p:=by(intro hW;((first|refine eK rfl rfl rfl an B5 an an ?_|((try refine aS ?_);refine aL1 rfl rfl rfl B5 ?_)));exact hW.out)):p:=f ⟨h⟩
theorem Iw{p q:Prop}(h:q)(f:Wq q->p:=by(intro hW;(refine zs53 ?_;refine tI ?_;refine tI ?_;refine Bl ?_;refine gS ?_);exact hW.out)):p:=f ⟨h⟩
theorem zb27{p:Prop}(h:p:=by(apply Mu;(exact rfl);(focus((apply aw;(conv=>lhs;whnf);(first|done|exact rfl))));(focus((apply aw;(conv=>lhs;whnf);(first|done|exact rfl))));(kernel_rfl);(kernel_rfl))):p:=h
theorem zb8{p:Prop}(h:p:=by(first|(apply(Mt (c:=65536));(exact rfl);(focus((apply aw;(conv=>lhs;whnf);(first|done|exact rfl))));(exact bW);(exact rfl);(exact rfl);(focus(apply rU;(try simp only[]);omega)))|(apply d_quoP;(exact rfl);(focus((apply aw;(conv=>lhs;whnf);(first|done|exact rfl))));(exact bW);(omega))|(apply d_quo;(exact rfl);(focus((apply aw;(conv=>lhs;whnf);(first|done|exact rfl))));(exact bW);(omega))|(apply Fy;(exact rfl);(focus((apply aw;(conv=>lhs;whnf);(first|done|exact rfl))));(exact bW);(focus(first|omega|decide))))):p:=h
theorem zs50{p q:Prop}(h:q)(f:Wq q->p:=by(intro hW;(refine aL1 rfl rfl rfl zb8 ?_);exact hW.out)):p:=f ⟨h⟩
theorem tJ{p q:Prop}(h:q)(f:Wq q->p:=by(intro hW;(refine ct ?_;refine zs50 ?_;refine dJ ?_);exact hW.out)):p:=f ⟨h⟩
theorem zb5{p:Prop}(h:p:=by(first|(apply zz;(exact rfl);(focus((apply aw;(conv=>lhs;whnf);(first|done|exact rfl))));(focus(first|exact rfl|(apply ay;omega)|assumption|(simp;done)));(focus((apply aw;(conv=>lhs;whnf);(first|done|exact rfl)))))|(apply zA;(exact rfl);(focus((apply aw;(conv=>lhs;whnf);(first|done|exact rfl))));(focus(first|exact rfl|(apply aA;omega)|assumption|(simp;done)));(exact jD))|(apply d_pick;(exact rfl);(focus((apply aw;(conv=>lhs;whnf);(first|done|exact rfl))));(focus((apply aw;(conv=>lhs;whnf);(first|done|exact rfl))));(exact jD);(exact rfl)))):p:=h
theorem iP{p q:Prop}(h:q)(f:Wq q->p:=by(intro hW;(refine aL1 rfl rfl rfl zb5 ?_);exact hW.out)):p:=f ⟨h⟩
theorem zs34{p q:Prop}(h:q)(f:Wq q->p:=by(intro hW;((first|(apply ao 6;(focus kernel_rfl);(decide+kernel))|(apply ao 5;(focus kernel_rfl);(decide+kernel))|(apply ao 4;(focus kernel_rfl);(decide+kernel))|(apply ao 3;(focus kernel_rfl);(decide+kernel))|(apply ao 2;(focus kernel_rfl);(decide+kernel))|(apply ao 1;(focus kernel_rfl);(decide+kernel)));simp only[eZ,eE,fF,eO]);exact hW.out)):p:=f ⟨h⟩
theorem zs2{p q:Prop}(h:q)(f:Wq q->p:=by(intro hW;(refine aL1 rfl rfl rfl (by(apply pU;(exact rfl);(exact jC))) ?_);exact hW.out)):p:=f ⟨h⟩
theorem tL{p q:Prop}(h:q)(f:Wq q->p:=by(intro hW;(refine gar ?_;refine zs2 ?_;refine ba ?_);exact hW.out)):p:=f ⟨h⟩
theorem jL{p q:Prop}(h:q)(f:Wq q->p:=by(intro hW;(refine zs1 ?_;refine tL ?_;refine zs1 ?_);exact hW.out)):p:=f ⟨h⟩
theorem zs47{p q:Prop}(h:q)(f:Wq q->p:=by(intro hW;(refine aL1 rfl rfl rfl (by(apply d_neg;(exact rfl);(focus((apply aw;(conv=>lhs;whnf);(first|done|exact rfl))));(omega))) ?_);exact hW.out)):p:=f ⟨h⟩
theorem cL{p:Prop}(h:p:=by(apply bF;(conv=>lhs;whnf);(first|done|exact rfl|(apply bj;(first|(apply ay;omega)|(apply aA;omega)|assumption|(simp;done)))))):p:=h
theorem B0{p:Prop}(h:p:=by(first|(apply Jf;(exact rfl);(focus((apply aw;(conv=>lhs;whnf);(first|done|exact rfl))));(exact bW);(omega))|(apply dT;(exact rfl);(focus((apply aw;(conv=>lhs;whnf);(first|done|exact rfl))));(exact bW);(exact rfl)))):p:=h
theorem zs8{p q:Prop}(h:q)(f:Wq q->p:=by(intro hW;((first|(refine aLs rfl rfl rfl rfl ?_ ?_;(focus(apply bF;(conv=>lhs;whnf);(first|done|exact rfl|(apply bj;(first|(apply ay;omega)|(apply aA;omega)|assumption|(simp;done)))))))|refine aLw rfl rfl rfl rfl cL B0 ?_));exact hW.out)):p:=f ⟨h⟩
theorem mj{p q:Prop}(h:q)(f:Wq q->p:=by(intro hW;((apply mU;(focus(first|(apply aw;(conv=>lhs;whnf);(first|done|exact rfl))|with_reducible exact bW|with_reducible exact jD|with_reducible exact jC|exact op_zero));(focus(first|with_reducible rfl|(apply ay;omega)|assumption|(simp<;>omega)))));exact hW.out)):p:=f ⟨h⟩
theorem bU{p q:Prop}(h:q)(f:Wq q->p:=by(intro hW;(refine zs1 ?_;refine mj ?_;refine zs1 ?_);exact hW.out)):p:=f ⟨h⟩
theorem BZ{p:Prop}(h:p:=by(apply dT;(exact rfl);(focus((apply aw;(conv=>lhs;whnf);(first|done|exact rfl))));(exact bW);(exact rfl))):p:=h
theorem zs6{p q:Prop}(h:q)(f:Wq q->p:=by(intro hW;(refine aL1 rfl rfl rfl BZ ?_);exact hW.out)):p:=f ⟨h⟩
theorem oV{p q:Prop}(h:q)(f:Wq q->p:=by(intro hW;(refine ct ?_;refine zs6 ?_;refine ba ?_);exact hW.out)):p:=f ⟨h⟩
theorem zb1{p:Prop}(h:p:=by(first|(apply uQ;(exact rfl);(focus((apply aw;(conv=>lhs;whnf);(first|done|exact rfl))));(exact rfl);(focus((first|exact gD|exact gB|exact gC|exact wd_pt|exact rfl)));(exact rfl);(kernel_rfl);(kernel_rfl))|(apply ku;(exact rfl);(focus((apply aw;(conv=>lhs;whnf);(first|done|exact rfl))));(focus((repeat(first|exact br|refine bz _ ?_))));(exact jG);(exact rfl);(exact rfl);(focus((first|exact gD|exact gB|exact gC|exact wd_pt|exact rfl)));(exact rfl);(kernel_rfl);(kernel_rfl))|(apply lp;(exact rfl);(focus((apply aw;(conv=>lhs;whnf);(first|done|exact rfl))));(focus((repeat(first|exact br|refine bz _ ?_))));(exact rfl);(focus((first|exact jG|(apply pL;assumption)|assumption|exact rfl)));(exact rfl);(focus((first|exact gD|exact gB|exact gC|exact wd_pt|exact rfl)));(exact rfl);(kernel_rfl);(kernel_rfl))|(apply d_load_row;(exact rfl);(focus((apply aw;(conv=>lhs;whnf);(first|done|exact rfl))));(focus((repeat(first|exact br|refine bz _ ?_))));(exact rfl);(focus(first|(apply fM;assumption)|exact rfl));(assumption);(kernel_rfl);(kernel_rfl)))):p:=h
theorem jI{p q:Prop}(h:q)(f:Wq q->p:=by(intro hW;((first|refine eK rfl rfl rfl an zb1 an an ?_|((try refine aS ?_);refine aL1 rfl rfl rfl zb1 ?_)));exact hW.out)):p:=f ⟨h⟩
theorem fK{p q:Prop}(h:q)(f:Wq q->p:=by(intro hW;(refine aL1 rfl rfl rfl zb1 ?_);exact hW.out)):p:=f ⟨h⟩
theorem zb46{p:Prop}(h:p:=by rw[my aa,cR aa];exact h):p:=h
theorem zs10{p q:Prop}(h:q)(f:Wq q->p:=by(intro hW;((first|(refine aLs rfl rfl rfl rfl ?_ ?_;(focus(apply bF;(conv=>lhs;whnf);(first|done|exact rfl|(apply bj;(first|(apply ay;omega)|(apply aA;omega)|assumption|(simp;done)))))))|refine aLw rfl rfl rfl rfl cL zb1 ?_));exact hW.out)):p:=f ⟨h⟩
theorem zb13{p:Prop}(h:p:=by(first|(apply Jj;(exact rfl);(focus((apply aw;(conv=>lhs;whnf);(first|done|exact rfl))));(focus((apply aw;(conv=>lhs;whnf);(first|done|exact rfl))));(omega))|(apply dT;(exact rfl);(focus((apply aw;(conv=>lhs;whnf);(first|done|exact rfl))));(focus((apply aw;(conv=>lhs;whnf);(first|done|exact rfl))));(exact rfl)))):p:=h
theorem sL{p q:Prop}(h:q)(f:Wq q->p:=by(intro hW;(refine aL1 rfl rfl rfl zb13 ?_);exact hW.out)):p:=f ⟨h⟩
theorem zs18{p q:Prop}(h:q)(f:Wq q->p:=by(intro hW;(refine aL1 rfl rfl rfl B0 ?_);exact hW.out)):p:=f ⟨h⟩
theorem nI{p q:Prop}(h:q)(f:Wq q->p:=by(intro hW;(refine aL1 rfl rfl rfl (by(apply pU;(exact rfl);(exact bW))) ?_);exact hW.out)):p:=f ⟨h⟩
theorem BJ{p q:Prop}(h:q)(f:Wq q->p:=by(intro hW;(refine gar ?_;refine nI ?_;refine ba ?_);exact hW.out)):p:=f ⟨h⟩
theorem ew{p q:Prop}(h:q)(f:Wq q->p:=by(intro hW;(refine BJ ?_;refine zs1 ?_);exact hW.out)):p:=f ⟨h⟩
theorem Bm{p q:Prop}(h:q)(f:Wq q->p:=by(intro hW;(refine aL1 rfl rfl rfl (by(apply pU;(exact rfl);(exact jD))) ?_);exact hW.out)):p:=f ⟨h⟩
theorem Iy{p q:Prop}(h:q)(f:Wq q->p:=by(intro hW;(refine gar ?_;refine Bm ?_;refine ba ?_);exact hW.out)):p:=f ⟨h⟩
theorem kV{p q:Prop}(h:q)(f:Wq q->p:=by(intro hW;(refine Iy ?_;refine zs1 ?_);exact hW.out)):p:=f ⟨h⟩
theorem zs7{p q:Prop}(h:q)(f:Wq q->p:=by(intro hW;((first|(refine aLs rfl rfl rfl rfl ?_ ?_;(focus(apply bF;(conv=>lhs;whnf);(first|done|exact rfl|(apply bj;(first|(apply ay;omega)|(apply aA;omega)|assumption|(simp;done)))))))|refine aLw rfl rfl rfl rfl cL qo ?_));exact hW.out)):p:=f ⟨h⟩
theorem fg{p q:Prop}(h:q)(f:Wq q->p:=by(intro hW;(refine zs3 ?_;refine zs7 ?_);exact hW.out)):p:=f ⟨h⟩
theorem cf{p q:Prop}(h:q)(f:Wq q->p:=by(intro hW;(refine ct ?_;refine zs3 ?_);exact hW.out)):p:=f ⟨h⟩
theorem qp{p:Prop}(h:p:=by(apply dT;(exact rfl);(focus((apply aw;(conv=>lhs;whnf);(first|done|exact rfl))));(focus((apply aw;(conv=>lhs;whnf);(first|done|exact rfl))));(exact rfl))):p:=h
theorem mq{p q:Prop}(h:q)(f:Wq q->p:=by(intro hW;(refine aL1 rfl rfl rfl qp ?_);exact hW.out)):p:=f ⟨h⟩
theorem zs60{p q:Prop}(h:q)(f:Wq q->p:=by(intro hW;((first|(refine aLs rfl rfl rfl rfl ?_ ?_;(focus(apply bF;(conv=>lhs;whnf);(first|done|exact rfl|(apply bj;(first|(apply ay;omega)|(apply aA;omega)|assumption|(simp;done)))))))|refine aLw rfl rfl rfl rfl cL qp ?_));exact hW.out)):p:=f ⟨h⟩
theorem zb6{p:Prop}(h:p:=by(first|(apply zz;(exact rfl);(focus((apply aw;(conv=>lhs;whnf);(first|done|exact rfl))));(focus(first|exact rfl|(apply ay;omega)|assumption|(simp;done)));(exact jD))|(apply zA;(exact rfl);(focus((apply aw;(conv=>lhs;whnf);(first|done|exact rfl))));(focus(first|exact rfl|(apply aA;omega)|assumption|(simp;done)));(focus((apply aw;(conv=>lhs;whnf);(first|done|exact rfl)))))|(apply d_pick;(exact rfl);(focus((apply aw;(conv=>lhs;whnf);(first|done|exact rfl))));(exact jD);(focus((apply aw;(conv=>lhs;whnf);(first|done|exact rfl))));(exact rfl)))):p:=h
theorem vd{p q:Prop}(h:q)(f:Wq q->p:=by(intro hW;(refine aL1 rfl rfl rfl zb6 ?_);exact hW.out)):p:=f ⟨h⟩
theorem kY{p q:Prop}(h:q)(f:Wq q->p:=by(intro hW;(refine fg ?_;refine zs7 ?_);exact hW.out)):p:=f ⟨h⟩
theorem zb2{p:Prop}(h:p:=by(first|(apply Mv;(exact rfl);(focus((apply aw;(conv=>lhs;whnf);(first|done|exact rfl))));(kernel_rfl))|(apply CY;(exact rfl);(focus((apply aw;(conv=>lhs;whnf);(first|done|exact rfl))));(focus((repeat(first|exact br|refine bz _ ?_))));(kernel_rfl))|(apply d_len;(exact rfl);(focus((apply aw;(conv=>lhs;whnf);(first|done|exact rfl))));(kernel_rfl))|(apply d_len_own;(exact rfl);(focus((apply aw;(conv=>lhs;whnf);(first|done|exact rfl))));(focus((repeat(first|exact br|refine bz _ ?_))));(kernel_rfl))|(apply d_len0;(exact rfl);(focus((apply aw;(conv=>lhs;whnf);(first|done|exact rfl))));(kernel_rfl)))):p:=h
theorem oN{p q:Prop}(h:q)(f:Wq q->p:=by(intro hW;((first|(refine aLs rfl rfl rfl rfl ?_ ?_;(focus(apply bF;(conv=>lhs;whnf);(first|done|exact rfl|(apply bj;(first|(apply ay;omega)|(apply aA;omega)|assumption|(simp;done)))))))|refine aLw rfl rfl rfl rfl cL zb2 ?_));exact hW.out)):p:=f ⟨h⟩
theorem vc{p q:Prop}(h:q)(f:Wq q->p:=by(intro hW;((first|(refine aLs rfl rfl rfl rfl ?_ ?_;(focus(apply bF;(conv=>lhs;whnf);(first|done|exact rfl|(apply bj;(first|(apply ay;omega)|(apply aA;omega)|assumption|(simp;done)))))))|refine aLw rfl rfl rfl rfl cL BZ ?_));exact hW.out)):p:=f ⟨h⟩
theorem rI{p q:Prop}(h:q)(f:Wq q->p:=by(intro hW;(refine vc ?_;refine vd ?_;refine ba ?_);exact hW.out)):p:=f ⟨h⟩
theorem zs4{p q:Prop}(h:q)(f:Wq q->p:=by(intro hW;(refine aL1 rfl rfl rfl zb2 ?_);exact hW.out)):p:=f ⟨h⟩
theorem Iv{p q:Prop}(h:q)(f:Wq q->p:=by(intro hW;(refine cf ?_;refine zs4 ?_;refine mq ?_;refine kY ?_;refine oN ?_;refine zs60 ?_;refine vd ?_;refine fg ?_;refine rI ?_);exact hW.out)):p:=f ⟨h⟩
theorem dG{p:Prop}(h:p:=by(repeat(first|exact Gt|(apply En;(exact rfl))|apply Gu|apply JU))):p:=h
theorem dF{p:Prop}(h:p:=by(repeat(first|exact drop_nil|apply Hb|(apply Ft;(exact rfl))))):p:=h
theorem kF{p:Prop}(h:p:=by(first|(apply aw;(conv=>lhs;whnf);(first|done|exact rfl))|with_reducible exact bW|with_reducible exact jD|with_reducible exact jC|exact op_zero)):p:=h
theorem vt{p:Prop}(h:p:=by first|exact Nat.zero_lt_one|omega|(simp;omega)):p:=h
theorem cr{p:Prop}(h:p:=by(repeat(first|exact br|refine bz _ ?_))):p:=h
theorem mr{p:Prop}(h:p:=by(first|exact gD|exact gB|exact gC|exact wd_pt|exact rfl)):p:=h
theorem vu{p:Prop}(h:p:=by(repeat(first|exact set_nil|apply JY|apply JZ|(apply Gx;(exact rfl))))):p:=h
theorem dm{p:Prop}(h:p:=by(apply aw;(conv=>lhs;whnf);(first|done|exact rfl))):p:=h
theorem zs38{p q:Prop}(h:q)(f:Wq q->p:=by(intro hW;(((try refine aS ?_);(refine oK (i:=0) rfl rfl rfl dm dm cr an vt an mr an ak vu ?_)));exact hW.out)):p:=f ⟨h⟩
theorem xE{p q:Prop}(h:q)(f:Wq q->p:=by(intro hW;(refine aL1 rfl rfl rfl B5 ?_);exact hW.out)):p:=f ⟨h⟩
theorem gn{p q:Prop}(h:q)(f:Wq q->p:=by(intro hW;(refine ct ?_;refine zs4 ?_);exact hW.out)):p:=f ⟨h⟩
theorem wX{p q:Prop}(h:q)(f:Wq q->p:=by(intro hW;(refine gn ?_;refine zs3 ?_;refine zs4 ?_;refine xE ?_;refine ba ?_);exact hW.out)):p:=f ⟨h⟩
theorem zb4{p:Prop}(h:p:=by(first|(apply kr;(exact rfl);(focus((apply aw;(conv=>lhs;whnf);(first|done|exact rfl))));(focus((apply aw;(conv=>lhs;whnf);(first|done|exact rfl))));(kernel_rfl);(kernel_rfl);(omega);(focus((first|(apply get_map;assumption)|(apply get_own;assumption)))))|(apply ja;(exact rfl);(focus((apply aw;(conv=>lhs;whnf);(first|done|exact rfl))));(focus((apply aw;(conv=>lhs;whnf);(first|done|exact rfl))));(focus((repeat(first|exact br|refine bz _ ?_))));(kernel_rfl);(kernel_rfl);(focus(first|omega|(simp;omega)));(focus(first|(apply fM;assumption)|exact rfl))))):p:=h
theorem zs27{p q:Prop}(h:q)(f:Wq q->p:=by(intro hW;((first|refine eK rfl rfl rfl an zb4 an an ?_|((try refine aS ?_);refine aL1 rfl rfl rfl zb4 ?_)));exact hW.out)):p:=f ⟨h⟩
theorem oQ{p q:Prop}(h:q)(f:Wq q->p:=by(intro hW;(refine fJ ?_;refine zs27 ?_;refine jI ?_);exact hW.out)):p:=f ⟨h⟩
theorem cD{p q:Prop}(h:q)(f:Wq q->p:=by(intro hW;(refine zs1 ?_;refine ew ?_);exact hW.out)):p:=f ⟨h⟩
theorem kX{p q:Prop}(h:q)(f:Wq q->p:=by(intro hW;(refine tL ?_;refine cD ?_);exact hW.out)):p:=f ⟨h⟩
theorem zb18{p:Prop}(h:p:=by(first|(apply Hi;(exact rfl);(focus((apply aw;(conv=>lhs;whnf);(first|done|exact rfl))));(kernel_rfl);(kernel_rfl))|(apply d_field_at;(exact rfl);(focus((apply aw;(conv=>lhs;whnf);(first|done|exact rfl))));(kernel_rfl);(exact rfl);(kernel_rfl)))):p:=h
theorem Bo{p q:Prop}(h:q)(f:Wq q->p:=by(intro hW;((first|refine eK rfl rfl rfl an zb18 an an ?_|((try refine aS ?_);refine aL1 rfl rfl rfl zb18 ?_)));exact hW.out)):p:=f ⟨h⟩
theorem xN{p:Prop}(h:p:=by(repeat(first|exact JH|apply JI|(apply Ga;(exact rfl))))):p:=h
theorem xO{p:Prop}(h:p:=by first|exact rfl|(apply yI;intro _;exact rfl)|(apply Kc;apply yI;intro _;exact rfl)|(apply nw_drop;apply yI;intro _;exact rfl)|(simp[D.nw];done)):p:=h
theorem dL{p:Prop}(h:p:=by(repeat(first|exact yX|(apply wE;(exact rfl))|(apply yY;(exact rfl))))):p:=h
theorem vh{p q:Prop}(h:q)(f:Wq q->p:=by(intro hW;((refine rE rfl rfl rfl rfl dm dm cr an xO ak ak (by(first|omega|(simp;done)|(simp;omega))) dL xN ?_));exact hW.out)):p:=f ⟨h⟩
theorem zs14{p q:Prop}(h:q)(f:Wq q->p:=by(intro hW;(refine aL1 rfl rfl rfl (by(apply CX;(exact rfl);(focus((apply aw;(conv=>lhs;whnf);(first|done|exact rfl))));(focus((apply aw;(conv=>lhs;whnf);(first|done|exact rfl))));(kernel_rfl);(kernel_rfl);(focus(first|exact lv _|exact rfl));(focus(first|omega|(simp;omega))))) ?_);exact hW.out)):p:=f ⟨h⟩
theorem zs13{p q:Prop}(h:q)(f:Wq q->p:=by(intro hW;((refine oL (k:=18) (wd:=1) (T:=Tryz.prog.elem 40) rfl rfl rfl rfl ak ak an an dL ?_));exact hW.out)):p:=f ⟨h⟩
theorem IB{p q:Prop}(h:q)(f:Wq q->p:=by(intro hW;(refine gar ?_;refine zs13 ?_;refine zs3 ?_;refine zs3 ?_;refine zs14 ?_;refine vh ?_;refine dJ ?_);exact hW.out)):p:=f ⟨h⟩
theorem zb10{p:Prop}(h:p:=by(first|(apply(Fx (c:=65536));(exact rfl);(focus((apply aw;(conv=>lhs;whnf);(first|done|exact rfl))));(exact bW);(exact rfl);(exact rfl))|(apply d_remP;(exact rfl);(focus((apply aw;(conv=>lhs;whnf);(first|done|exact rfl))));(exact bW);(omega))|(apply zy;(exact rfl);(focus((apply aw;(conv=>lhs;whnf);(first|done|exact rfl))));(exact bW);(focus(first|omega|decide))))):p:=h
theorem fR{p q:Prop}(h:q)(f:Wq q->p:=by(intro hW;(refine zs1 ?_;refine kV ?_);exact hW.out)):p:=f ⟨h⟩
theorem oO{p q:Prop}(h:q)(f:Wq q->p:=by(intro hW;((refine oK (i:=0) rfl rfl rfl dm dm cr an vt an mr an ak vu ?_));exact hW.out)):p:=f ⟨h⟩
theorem dv{p q:Prop}(h:q)(f:Wq q->p:=by(intro hW;(refine ba ?_;refine zs1 ?_);exact hW.out)):p:=f ⟨h⟩
theorem vv{p:Prop}(h:p:=by(apply vU;(exact rfl);(focus((apply aw;(conv=>lhs;whnf);(first|done|exact rfl))));(exact rfl);(assumption);(exact rfl))):p:=h
theorem xF{p q:Prop}(h:q)(f:Wq q->p:=by(intro hW;((first|refine eK rfl rfl rfl an vv an an ?_|((try refine aS ?_);refine aL1 rfl rfl rfl vv ?_)));exact hW.out)):p:=f ⟨h⟩
theorem sO{p q:Prop}(h:q)(f:Wq q->p:=by(intro hW;((first|refine eK rfl rfl rfl an zb39 an an ?_|((try refine aS ?_);refine aL1 rfl rfl rfl zb39 ?_)));exact hW.out)):p:=f ⟨h⟩
theorem zb22{p:Prop}(h:p:=by(apply Jh;(exact rfl);(focus((apply aw;(conv=>lhs;whnf);(first|done|exact rfl))));(exact rfl);(focus((first|exact gD|exact gB|exact gC|exact wd_pt|exact rfl)));(kernel_rfl);(kernel_rfl);(exact rfl);(exact rfl))):p:=h
theorem qk{p q:Prop}(h:q)(f:Wq q->p:=by(intro hW;(refine aL1 rfl rfl rfl zb22 ?_);exact hW.out)):p:=f ⟨h⟩
theorem sM{p q:Prop}(h:q)(f:Wq q->p:=by(intro hW;((refine rE rfl rfl rfl rfl dm dm cr an xO ak ak (by(simp only[aY,dh,en];omega)) dL xN ?_));exact hW.out)):p:=f ⟨h⟩
theorem oU{p q:Prop}(h:q)(f:Wq q->p:=by(intro hW;(refine cf ?_;refine qk ?_;refine sM ?_;refine dJ ?_);exact hW.out)):p:=f ⟨h⟩
theorem zs9{p q:Prop}(h:q)(f:Wq q->p:=by(intro hW;((first|(refine aLs rfl rfl rfl rfl ?_ ?_;(focus(apply bF;(conv=>lhs;whnf);(first|done|exact rfl|(apply bj;(first|(apply ay;omega)|(apply aA;omega)|assumption|(simp;done)))))))|refine aLw rfl rfl rfl rfl cL zb4 ?_));exact hW.out)):p:=f ⟨h⟩
theorem Bn{p q:Prop}(h:q)(f:Wq q->p:=by(intro hW;(refine aL1 rfl rfl rfl zb10 ?_);exact hW.out)):p:=f ⟨h⟩
theorem BW{p:Prop}(h:p:=by(apply Hc;(exact rfl);(focus((apply aw;(conv=>lhs;whnf);(first|done|exact rfl)))))):p:=h
theorem jK{p q:Prop}(h:q)(f:Wq q->p:=by(intro hW;(refine zs1 ?_;refine ct ?_);exact hW.out)):p:=f ⟨h⟩
theorem zs41{p q:Prop}(h:q)(f:Wq q->p:=by(intro hW;(refine aL1 rfl rfl rfl (by(first|(apply dT;(exact rfl);(focus((apply aw;(conv=>lhs;whnf);(first|done|exact rfl))));(exact bW);(exact rfl))|(apply Jg;(exact rfl);(focus((apply aw;(conv=>lhs;whnf);(first|done|exact rfl))));(exact bW);(kernel_rfl)))) ?_);exact hW.out)):p:=f ⟨h⟩
theorem jg{p q:Prop}(h:q)(f:Wq q->p:=by(intro hW;(refine ct ?_;refine zs41 ?_;refine ba ?_);exact hW.out)):p:=f ⟨h⟩
theorem gR{p q:Prop}(h:q)(f:Wq q->p:=by(intro hW;(refine aL1 rfl rfl rfl vv ?_);exact hW.out)):p:=f ⟨h⟩
theorem zb19{p:Prop}(h:p:=by(first|(apply dT;(exact rfl);(focus((apply aw;(conv=>lhs;whnf);(first|done|exact rfl))));(exact bW);(exact rfl))|(apply Ji;(exact rfl);(focus((apply aw;(conv=>lhs;whnf);(first|done|exact rfl))));(exact bW);(kernel_rfl)))):p:=h
theorem ve{p q:Prop}(h:q)(f:Wq q->p:=by(intro hW;(refine aL1 rfl rfl rfl zb19 ?_);exact hW.out)):p:=f ⟨h⟩
theorem xG{p q:Prop}(h:q)(f:Wq q->p:=by(intro hW;(refine aL1 rfl rfl rfl (by(apply Hg;(exact rfl);(focus((apply aw;(conv=>lhs;whnf);(first|done|exact rfl))));(exact rfl))) ?_);exact hW.out)):p:=f ⟨h⟩
theorem Hx{p q:Prop}(h:q)(f:Wq q->p:=by(intro hW;(refine gar ?_;refine xG ?_;refine nI ?_;refine dv ?_;refine gar ?_;refine fK ?_;refine gR ?_;refine zs4 ?_;refine ve ?_;refine dv ?_);exact hW.out)):p:=f ⟨h⟩
theorem qq{p:Prop}(h:p:=by(apply oI;(exact rfl);(focus((apply aw;(conv=>lhs;whnf);(first|done|exact rfl))));(focus((apply aw;(conv=>lhs;whnf);(first|done|exact rfl))));(exact rfl);(exact rfl);(assumption);(exact rfl))):p:=h
theorem vf{p q:Prop}(h:q)(f:Wq q->p:=by(intro hW;((first|refine eK rfl rfl rfl an qq an an ?_|((try refine aS ?_);refine aL1 rfl rfl rfl qq ?_)));exact hW.out)):p:=f ⟨h⟩
theorem zb17{p:Prop}(h:p:=by(first|(apply CW;(exact rfl);(focus((apply aw;(conv=>lhs;whnf);(first|done|exact rfl))));(kernel_rfl);(kernel_rfl))|(apply d_field_at;(exact rfl);(focus((apply aw;(conv=>lhs;whnf);(first|done|exact rfl))));(kernel_rfl);(exact rfl);(kernel_rfl)))):p:=h
theorem zs21{p q:Prop}(h:q)(f:Wq q->p:=by(intro hW;(refine aL1 rfl rfl rfl zb17 ?_);exact hW.out)):p:=f ⟨h⟩
theorem Iz{p q:Prop}(h:q)(f:Wq q->p:=by(intro hW;(refine ct ?_;refine zs21 ?_;refine fK ?_;refine zs4 ?_;refine mq ?_;refine ba ?_);exact hW.out)):p:=f ⟨h⟩
theorem zs16{p q:Prop}(h:q)(f:Wq q->p:=by(intro hW;((first|(refine aLs rfl rfl rfl rfl ?_ ?_;(focus(apply bF;(conv=>lhs;whnf);(first|done|exact rfl|(apply bj;(first|(apply ay;omega)|(apply aA;omega)|assumption|(simp;done)))))))|refine aLw rfl rfl rfl rfl cL zb3 ?_));exact hW.out)):p:=f ⟨h⟩
theorem zs17{p q:Prop}(h:q)(f:Wq q->p:=by(intro hW;((first|(refine aLs rfl rfl rfl rfl ?_ ?_;(focus(apply bF;(conv=>lhs;whnf);(first|done|exact rfl|(apply bj;(first|(apply ay;omega)|(apply aA;omega)|assumption|(simp;done)))))))|refine aLw rfl rfl rfl rfl cL zb0 ?_));exact hW.out)):p:=f ⟨h⟩
theorem xH{p q:Prop}(h:q)(f:Wq q->p:=by(intro hW;((first|(refine aLs rfl rfl rfl rfl ?_ ?_;(focus(apply bF;(conv=>lhs;whnf);(first|done|exact rfl|(apply bj;(first|(apply ay;omega)|(apply aA;omega)|assumption|(simp;done)))))))|refine aLw rfl rfl rfl rfl cL zb19 ?_));exact hW.out)):p:=f ⟨h⟩
theorem IA{p q:Prop}(h:q)(f:Wq q->p:=by(intro hW;(refine ct ?_;refine zs6 ?_;refine kY ?_;refine zs8 ?_;refine zs16 ?_;refine zs17 ?_;refine xH ?_;refine iP ?_;refine ba ?_);exact hW.out)):p:=f ⟨h⟩
theorem zs65{p q:Prop}(h:q)(f:Wq q->p:=by(intro hW;(refine aL1 rfl rfl rfl (by(first|(apply uQ;(exact rfl);(focus((apply aw;(conv=>lhs;whnf);(first|done|exact rfl))));(exact rfl);(focus((first|exact gD|exact gB|exact gC|exact wd_pt|exact rfl)));(exact rfl);(kernel_rfl);(kernel_rfl))|(apply ku;(exact rfl);(focus((apply aw;(conv=>lhs;whnf);(first|done|exact rfl))));(focus((repeat(first|exact br|refine bz _ ?_))));(exact jG);(exact rfl);(exact rfl);(focus((first|exact gD|exact gB|exact gC|exact wd_pt|exact rfl)));(exact rfl);(kernel_rfl);(kernel_rfl))|(apply lp;(exact rfl);(focus((apply aw;(conv=>lhs;whnf);(first|done|exact rfl))));(focus((repeat(first|exact br|refine bz _ ?_))));(exact rfl);(focus((first|exact jG|(apply pL;assumption)|assumption|(apply get_map;exact hy h6)|exact rfl)));(exact rfl);(focus((first|exact gD|exact gB|exact gC|exact wd_pt|exact rfl)));(exact rfl);(kernel_rfl);(kernel_rfl))|(apply d_load_row;(exact rfl);(focus((apply aw;(conv=>lhs;whnf);(first|done|exact rfl))));(focus((repeat(first|exact br|refine bz _ ?_))));(exact rfl);(focus(first|(apply fM;assumption)|exact rfl));(assumption);(kernel_rfl);(kernel_rfl)))) ?_);exact hW.out)):p:=f ⟨h⟩
theorem BH{p q:Prop}(h:q)(f:Wq q->p:=by(intro hW;(refine cf ?_;refine zs4 ?_;refine mq ?_;refine ba ?_);exact hW.out)):p:=f ⟨h⟩
theorem rH{p q:Prop}(h:q)(f:Wq q->p:=by(intro hW;(refine zs1 ?_;refine BH ?_;refine zs1 ?_);exact hW.out)):p:=f ⟨h⟩
theorem Bp{p q:Prop}(h:q)(f:Wq q->p:=by(intro hW;((refine wa (k:=2) (z:=(.agg #[.bool false,.slice none 0 0])) (d:=(.nm 0)) rfl rfl rfl rfl rfl ak an an mr an an dL ?_));exact hW.out)):p:=f ⟨h⟩
theorem mZ{p q:Prop}(h:q)(f:Wq q->p:=by(intro hW;(refine zs1 ?_;refine gar ?_);exact hW.out)):p:=f ⟨h⟩
theorem aH{p:Prop}(h:p:=by(repeat(first|exact Gj|(apply D0;(focus(repeat(first|exact br|refine bz _ ?_))))))):p:=h
theorem zs57{p q:Prop}(h:q)(f:Wq q->p:=by(intro hW;((first|(apply ao 9;(focus kernel_rfl);(decide+kernel))|(apply ao 8;(focus kernel_rfl);(decide+kernel))|(apply ao 7;(focus kernel_rfl);(decide+kernel))|(apply ao 6;(focus kernel_rfl);(decide+kernel))|(apply ao 5;(focus kernel_rfl);(decide+kernel))|(apply ao 4;(focus kernel_rfl);(decide+kernel))|(apply ao 3;(focus kernel_rfl);(decide+kernel))|(apply ao 2;(focus kernel_rfl);(decide+kernel)));simp only[eZ,eE,fF,eO]);exact hW.out)):p:=f ⟨h⟩
theorem zs64{p q:Prop}(h:q)(f:Wq q->p:=by(intro hW;(refine aL1 rfl rfl rfl (by(first|(apply kr;(exact rfl);(focus((apply aw;(conv=>lhs;whnf);(first|done|exact rfl))));(focus((apply aw;(conv=>lhs;whnf);(first|done|exact rfl))));(kernel_rfl);(kernel_rfl);(omega);(focus((first|(apply get_map;exact hy h6)|(apply get_map;assumption)|(apply get_own;assumption)))))|(apply ja;(exact rfl);(focus((apply aw;(conv=>lhs;whnf);(first|done|exact rfl))));(focus((apply aw;(conv=>lhs;whnf);(first|done|exact rfl))));(focus((repeat(first|exact br|refine bz _ ?_))));(kernel_rfl);(kernel_rfl);(focus(first|omega|(simp;omega)));(focus(first|(apply fM;assumption)|exact rfl))))) ?_);exact hW.out)):p:=f ⟨h⟩
theorem zs25{p q:Prop}(h:q)(f:Wq q->p:=by(intro hW;((first|refine eK rfl rfl rfl an zb17 an an ?_|((try refine aS ?_);refine aL1 rfl rfl rfl zb17 ?_)));exact hW.out)):p:=f ⟨h⟩
theorem BI{p q:Prop}(h:q)(f:Wq q->p:=by(intro hW;(refine ct ?_;refine gR ?_;refine dJ ?_);exact hW.out)):p:=f ⟨h⟩
theorem jJ{p q:Prop}(h:q)(f:Wq q->p:=by(intro hW;(refine BI ?_;refine zs1 ?_);exact hW.out)):p:=f ⟨h⟩
theorem zs58{p q:Prop}(h:q)(f:Wq q->p:=by(intro hW;((first|refine eK rfl rfl rfl an qp an an ?_|((try refine aS ?_);refine aL1 rfl rfl rfl qp ?_)));exact hW.out)):p:=f ⟨h⟩
theorem zs40{p q:Prop}(h:q)(f:Wq q->p:=by(intro hW;(refine aL1 rfl rfl rfl zb18 ?_);exact hW.out)):p:=f ⟨h⟩
theorem bG{p q:Prop}(h:q)(f:Wq q->p:=by(intro hW;(refine zs1 ?_;refine mn ?_;refine zs1 ?_);exact hW.out)):p:=f ⟨h⟩
theorem cJ{p q:Prop}(h:q)(f:Wq q->p:=by(intro hW;(refine dJ ?_;refine zs1 ?_);exact hW.out)):p:=f ⟨h⟩
end
section
open Go.RowKit
namespace DW
theorem nA{l:List Nat}{k:Nat}(h:k<l.length):l[k]?=some (l.getD k 0):=by rw[aF,aV h];rfl
theorem hd_of{l:List Nat}(h:Dg.dig 65536 l):l.take (tl l)=hd (Dg.vl 65536 l):=by
 obtain⟨h1,h2⟩:=JJ h;have:=Dg.Fv az h1;rw[h2]at this;exact this.symm
abbrev trimQ(N:Nat)(e:Exit)(s:S):Prop:=(e= .normal\/e= .ret)/\s.gt 2= .own 18/\(18,(⟨3,1,(hd N).map hN⟩:Ow))∈s.ow
set_option maxRecDepth 20000 in
set_option maxHeartbeats 1000000 in
theorem DQ(X0:Nat->Prop)(l:List Nat)(hl:l.length<=900000000)(hdg:Dg.dig 65536 l):∃c,Tryz.f188.body=some c/\aW Tryz.prog X0 Tryz.f188.ntmps c (trimQ (Dg.vl 65536 l)) ⟨aQ 0 [dN l],[]⟩:=by
 refine⟨_,rfl,?_⟩;have HT:=hd_of hdg;simp only[aQ];refine jL ?_;refine gn ?_;refine cJ ?_
 (refine aI (av (sl':=[(0,dN l),(3,zI l.length)]) (ow':=[]) aE aH) ?_)
 refine aX (fun k s=>tl l<=k/\k<=l.length/\s=⟨[(0,dN l),(3,zI k)],[]⟩) (m:=l.length) ⟨gW l,af _,rfl⟩ fun k s hs=>?_;obtain⟨hk1,hk2,rfl⟩:=hs;have fin':∀(K:Exit->S->Prop),k=tl l->([]++(l.map hN).take k)=(hd (Dg.vl 65536 l)).map hN:=fun _ e=>by rw[cT,<-List.map_take,e,HT]
 by_cases hk0:k=0
 ·subst hk0;have ht:tl l=0:=by omega
  refine jK ?_;refine zs6 ?_;refine kY ?_;refine zs8 ?_;refine zs9 ?_;refine zs10 ?_;refine xH ?_;refine iP ?_;refine dv ?_;refine nH kF (by rfl) ?_;refine zs1 ?_;refine IB ?_;refine zs1 ?_;exact⟨.inr rfl,by rfl,by rw[<-fin' (fun _ _=>True) ht.symm];exact br⟩
 ·have hx:=nA (l:=l) (k:=k-1) aa;obtain⟨x,hxd⟩:∃x,x=l.getD (k-1) 0:=⟨_,rfl⟩;rw[<-hxd]at hx;have hcast:(k:Int)-1=((k-1:Nat):Int):=by omega
  by_cases hx0:x=0
  ·have hlt : tl l < k := by
    rcases oy l with h|h
    ·omega
    ·apply Nat.lt_of_le_of_ne hk1;intro e;rw[e]at h;exact h (by rw[<-hxd,hx0])
   refine zs1 ?_;refine IA ?_;refine zs1 ?_;refine mU kF (ay aa) ?_;refine jK ?_;refine zs18 ?_;refine dJ ?_;simp only[nx,inB];exact⟨k-1,_,by omega,(av (sl':=[(0,dN l),(3,zI (k-1:Nat))]) (ow':=[]) aE aH),by omega,by omega,rfl⟩
  ·have ht : k = tl l := by
    apply tP _ hk1;apply cQ;intro h;exact hx0 (by rw[hxd];exact lV l (k-1) aa)
   refine zs1 ?_;refine IA ?_;refine zs1 ?_;refine nH kF (aA aa) ?_;refine zs1 ?_;refine IB ?_;refine zs1 ?_;exact⟨.inr rfl,by rfl,by rw[<-fin' (fun _ _=>True) ht];exact br⟩
theorem DR(l:List Nat)(hl:l.length<=900000000)(hdg:Dg.dig 65536 l):Fn Tryz.prog 188 [dN l] (dN (hd (Dg.vl 65536 l))):=by
 refine bq Tryz.func188 ak rfl rfl rfl fun X0=>?_;obtain⟨c,h1,h2⟩:=DQ X0 l hl hdg;cases h1;refine h2.mono fun e s ⟨h3,h4,h5⟩=>?_;have:=Kw (P:=Tryz.prog) (X0:=X0) (n:=Tryz.f188.ntmps) (fn:=Tryz.f188) (s:=s) (t:=2) rfl h4 h5;rcases h3 with rfl|rfl<;>exact this
theorem Fg(l:List Nat)(hl:l.length<=900000000)(hdg:Dg.dig 65536 l)(X:Nat->Prop)(w:World)(v:Value)(hX:XW X w)(hv:AR X w (dN l) v):Calls Tryz.prog 188 #[v] w fun e w'=>HRes w' e (Dg.vl 65536 l)/\Below w.heap.size w w':=by
 obtain⟨c,h1,h2⟩:=DQ X l hl hdg;refine FG (ds:=[dN l]) Tryz.func188 h1 rfl rfl hX (by simp only[ATp];exact⟨v,[],rfl,hv,rfl⟩) _ h2 fun e s f a w' ⟨h3,h4,h5⟩ hh=>⟨h3,a.tmps.getD 2 undef,results_tmp rfl a.tmps _ _,⟨_,hd (Dg.vl 65536 l),rfl,?_,(Dg.cH az _).1,(Dg.cH az _).2⟩,hh.bl.low⟩;have h6:=hh.sl 2;rw[h4]at h6;simp only[SR]at h6;rw[h6];obtain⟨_,xs,⟨k1,k2⟩,k3⟩:=hh.ow _ h5;simp only[aY]at k1 k2 k3;rcases k2 with⟨k4,k5⟩|⟨g,cap,cur,k4,_,hgg,hle,hm,hcs,htk⟩
 ·exact .inl ⟨k4,gu k5⟩
 ·refine .inr ⟨g,cap,k4,hle,hm,(dz.1 hgg).1,fun k x hk=>?_⟩;have hd':((hd (Dg.vl 65536 l)).map hN)[k]?=some (hN x):=by rw[db,hk];rfl
  obtain⟨u,e1,_,_,e4⟩:=Els.at k3 hd';simp only[AR]at e1;have h7:=e4 0 u (by rw[gj (by rw[e1.1];rfl)];rfl);rw[gV,bP]at h7;rw[cell_of_row w' g _ cur _ (0,0) hgg];have hlt:=(cw.1 h7).1;rw[<-htk,aP]at hlt;rw[<-htk,fS aa,dE]at h7;rw[h7,e1.1]
theorem yR(s:Bool)(l:List Nat)(hl:l.length<=900000000)(hdg:Dg.dig 65536 l):Fn Tryz.prog 150 [.sc (.bool s),dN l] (.nm (Dg.iv s (Dg.vl 65536 l))):=by
 refine⟨Go.Proofs.enters_of Tryz.func150 ak rfl,fun X w vs hX hv=>?_⟩;simp only[ATp]at hv;obtain⟨v1,r1,e,h1,v2,r2,e2,h2,e3⟩:=hv;simp only[AR]at h1;rw[e2,e3,h1.1]at e;have:vs= #[.bool s,v2]:=dp.1 e;subst this;exact(Fh s l v2 aa hdg w fun W hW=>Fg l hl hdg X W v2 (hX.grow hW) (h2.grow hW)).mono fun e w' ⟨⟨x,k1,k2⟩,k3⟩=>⟨_,k1,by simp only[AR];exact⟨x,rfl,k2⟩,k3⟩
set_option maxRecDepth 20000 in
set_option maxHeartbeats 1000000 in
theorem Hh(z:Int)(hz:(wds z.natAbs).length<=400000000):Fn Tryz.prog 151 [.nm z] (dN (hd z.natAbs)):=by
 refine bq Tryz.func151 ak rfl rfl rfl fun X0=>?_;simp only[aQ];have hv:Dg.vl B32 (wds z.natAbs)=z.natAbs:=(Dg.cH az _).2;have hdu:Dg.dig B32 (wds z.natAbs):=(Dg.cH az _).1.dg;have hvl:Dg.vl 65536 (hw (wds z.natAbs))=z.natAbs:=by rw[I9,hv]
 have TRIM:=DR (hw (wds z.natAbs)) (by rw[zg];omega) (Ff hdu);rw[hvl]at TRIM;refine mZ ?_;refine xG ?_;refine zs2 ?_;refine dv ?_;refine kX ?_;refine aI (eX (t:=3) (k:=3) (T:=3) (wd:=1) jN rfl rfl dL) ?_
 (refine aI (av (sl':=[(1,.pt (.nm z)),(3,.own 3),(4,zI 0)]) (ow':=[(3,⟨3,1,[]⟩)]) aE aH) ?_)
 refine aX (fun r s=>∃k,k<=(wds z.natAbs).length/\r=(wds z.natAbs).length-k/\s=⟨[(1,.pt (.nm z)),(3,.own 3),(4,zI k)],[(3,⟨3,1,(hw ((wds z.natAbs).take k)).map hN⟩)]⟩) (m:=(wds z.natAbs).length) ⟨0,by omega,rfl,by simp[hw]⟩ fun r s hs=>?_;obtain⟨k,hk,rfl,rfl⟩:=hs;by_cases hkl:k<(wds z.natAbs).length
 ·have hx:=nA hkl;obtain⟨x,hxd⟩:∃x,x=(wds z.natAbs).getD k 0:=⟨_,rfl⟩;rw[<-hxd]at hx;have hx32:x<4294967296:=hdu x (bh hx);have hql:x/65536<65536:=by omega
  refine zs1 ?_;refine Iz ?_;refine zs1 ?_;refine mU kF (ay aa) ?_;refine zs1 ?_;((first|(apply ao 16;(focus kernel_rfl);(decide+kernel))|(apply ao 15;(focus kernel_rfl);(decide+kernel))|(apply ao 14;(focus kernel_rfl);(decide+kernel))|(apply ao 13;(focus kernel_rfl);(decide+kernel))|(apply ao 12;(focus kernel_rfl);(decide+kernel))|(apply ao 11;(focus kernel_rfl);(decide+kernel))|(apply ao 10;(focus kernel_rfl);(decide+kernel))|(apply ao 9;(focus kernel_rfl);(decide+kernel)));simp only[eZ,eE,fF,eO]);refine fJ ?_;refine zs25 ?_;refine jI ?_;refine oQ ?_;(first|refine eK rfl rfl rfl an zb10 an an ?_|((try refine aS ?_);refine aL1 rfl rfl rfl zb10 ?_));refine zs28 ?_;refine zs25 ?_;refine jI ?_;refine oQ ?_;(first|refine eK rfl rfl rfl an zb8 an an ?_|((try refine aS ?_);refine aL1 rfl rfl rfl zb8 ?_));refine zs28 ?_;(first|refine eK rfl rfl rfl an zb27 an an ?_|((try refine aS ?_);refine aL1 rfl rfl rfl zb27 ?_));((try refine aS ?_);(refine rE rfl rfl rfl rfl dm dm cr an xO ak ak (by(simp only[aY,zg,aP,dh,en];omega)) dL xN ?_));refine sO ?_;refine gS ?_;refine zs1 ?_;refine tK ?_;simp only[nx,inB];refine⟨(wds z.natAbs).length-(k+1),_,by omega,(av (sl':=[(1,.pt (.nm z)),(3,.own 3),(4,zI (k+1:Nat))]) (ow':=[(3,⟨3,1,(hw ((wds z.natAbs).take k)).map hN++[hN (x%65536),hN (x/65536)]⟩)]) aE aH),k+1,by omega,rfl,?_⟩;rw[Kp hx,dC];rfl
 ·have hke:k=(wds z.natAbs).length:=by omega
  subst hke;rw[fj];refine zs1 ?_;refine Iz ?_;refine zs1 ?_;refine nH kF (aA aa) ?_;refine zs1 ?_;refine aI (bB (k:=3) cr dG dF) ?_;refine jJ ?_;exact⟨_,Sh.refl,.one (.tmp 2) _ rfl (.tmp 2 rfl)⟩
end DW
end
section
open Go.RowKit
namespace DW
theorem ny{n k:Nat}(h:n<65536^k):(hd n).length<=k:=by
 apply cQ;intro hlt;obtain⟨j,hj⟩:∃j,(hd n).length=j+1:=⟨(hd n).length-1,by omega⟩;have h1:=Dg.kb hj (Dg.cH az n).1;rw[show Dg.vl 65536 (hd n)=n from(Dg.cH az n).2]at h1;have h2:=cE (n:=65536) aa (show k<=j by omega);omega
theorem si(n:Nat):n<65536^(hd n).length:=by
 have h:=Dg.bH (Dg.cH (b:=65536) az n).1.dg;rw[(Dg.cH az n).2]at h;exact h
theorem vP{m n:Nat}(h:m<=n):(hd m).length<=(hd n).length:=ny (ly h (si n))
theorem JE(n:Nat):(wds n).length<=(hd n).length:=by
 by_cases h0:(wds n).length=0
 ·omega
 ·obtain⟨j,hj⟩:∃j,(wds n).length=j+1:=⟨(wds n).length-1,by omega⟩;have h1:=Dg.kb hj (Dg.cH (b:=4294967296) az n).1;rw[show Dg.vl 4294967296 (wds n)=n from(Dg.cH az n).2]at h1;have h2:(4294967296:Nat)^j=65536^(2*j):=by rw[Nat.pow_mul]
  rw[h2]at h1;have h3:=ly h1 (si n);have h4:=(Nat.pow_lt_pow_iff_right (by omega:1<65536)).1 h3;omega
theorem lA(n:Nat):Dg.dig 65536 (hd n):=(Dg.cH az n).1.dg
theorem kj(n:Nat):Dg.vl 65536 (hd n)=n:=(Dg.cH az n).2
theorem zh(n:Nat):(hd n).length=0↔n=0:=by
 rw[List.length_eq_zero_iff];exact Dg.KE az
def Hf(z:Int):Prop:=(hd z.natAbs).length<=200000000
theorem Hf.neg{z:Int}(h:Hf z):Hf (-z):=by unfold Hf;rw[Int.natAbs_neg];exact h
theorem mi{z:Int}(h:Hf z):Fn Tryz.prog 151 [.nm z] (dN (hd z.natAbs)):=Hh z (by have:=JE z.natAbs;unfold Hf at h;omega)
theorem Ci{l:List Nat}(hl:l.length<=900000000)(hdg:Dg.dig 65536 l){n:Nat}(hv:Dg.vl 65536 l=n):Fn Tryz.prog 188 [dN l] (dN (hd n)):=hv▸DR l hl hdg
theorem uC{s:Bool}{n:Nat}(h:(hd n).length<=900000000){z:Int}(hz:Dg.iv s n=z):Fn Tryz.prog 150 [.sc (.bool s),dN (hd n)] (.nm z):=by
 have:=yR s (hd n) h (lA n);rw[kj,hz]at this;exact this
theorem za{z:Int}:Dg.iv (decide (z<0)) z.natAbs=z:=by unfold Dg.iv;split<;>rename_i h<;>simp at h<;>omega
theorem L6{z:Int}:Dg.iv (!decide (z<0)) z.natAbs= -z:=by unfold Dg.iv;split<;>rename_i h<;>simp at h<;>omega
set_option maxRecDepth 20000
set_option maxHeartbeats 1000000
theorem neg_d(z:Int)(hz:Hf z):Fn Tryz.prog 116 [.nm z] (.nm (-z)):=by
 have D1:=mi hz;have M1:=uC (s:=!decide (z<0)) (n:=z.natAbs) (by unfold Hf at hz;omega) L6;refine bq Tryz.func116 ak rfl rfl rfl fun X0=>?_;simp only[aQ];refine mZ ?_;refine xG ?_;refine Bp ?_;refine dv ?_;refine zs34 ?_;refine Bo ?_;refine jI ?_;(first|refine eK rfl rfl rfl an BW an an ?_|((try refine aS ?_);refine aL1 rfl rfl rfl BW ?_));refine jI ?_;refine xF ?_;refine vf ?_;refine zs38 ?_;refine gS ?_;refine zs1 ?_;exact⟨_,bB (k:=2) cr dG dF,.one (.cell 2 62) _ rfl (.cell 2 _ _ rfl rfl ak ak)⟩
theorem Em(z:Int)(hz:Hf z):Fn Tryz.prog 106 [.nm z] (zI (sgn z)):=by
 have D1:=mi hz;refine bq Tryz.func106 ak rfl rfl rfl fun X0=>?_;simp only[aQ];by_cases h0:z=0
 ·have hl:(hd z.natAbs).length=0:=(zh _).2 aa;refine zs1 ?_;refine Hx ?_;refine mU kF (ay aa) ?_;refine cD ?_;rw[show sgn z=0 by unfold sgn;rw[aj h0]];exact⟨_,Sh.refl,.one (.tmp 2) _ rfl (.tmp 2 rfl)⟩
 ·have hl:(hd z.natAbs).length≠0:=fun e=>h0 (by have:=(zh _).1 e;omega);refine zs1 ?_;refine Hx ?_;refine nH kF (aA aa) ?_;refine mZ ?_;refine zs40 ?_;refine fK ?_;refine dv ?_;by_cases h1:z<0
  ·refine mU kF (ay aa) ?_;refine cD ?_;rw[show sgn z= -1 by unfold sgn;rw[ah aa,aj h1]];exact⟨_,Sh.refl,.one (.tmp 2) _ rfl (.tmp 2 rfl)⟩
  ·refine nH kF (aA aa) ?_;refine cD ?_;rw[show sgn z=1 by unfold sgn;rw[ah aa,ah aa]];exact⟨_,Sh.refl,.one (.tmp 2) _ rfl (.tmp 2 rfl)⟩
end DW
end
section
open Go.RowKit
namespace DW
theorem JG{b:Nat}(l:List Nat)(x:Nat):Dg.vl b (l++[x])=Dg.vl b l+b^l.length*x:=by rw[Dg.dY];simp[Dg.vl]
theorem mQ{b:Nat}{l:List Nat}{x:Nat}(h:Dg.dig b l)(hx:x<b):Dg.dig b (l++[x]):=Dg.kt h fun y hy=>by
 rw[bV.1 hy];exact hx
theorem mJ(l:List Nat)(x:Nat):(l++[x]).map hN=l.map hN++[hN x]:=by rw[dC];rfl
theorem EP{l:List Nat}{m:Nat}(h:65536^l.length*m<65536^4)(hm:0<m):l.length<4:=by
 have h1:65536^l.length<=65536^l.length*m:=mu _ hm;exact(Nat.pow_lt_pow_iff_right (by omega:1<65536)).1 (ly h1 h)
theorem AH(l:List Nat)(m:Nat):Dg.vl 65536 (l++[m%65536])+65536^(l++[m%65536]).length*(m/65536)=Dg.vl 65536 l+65536^l.length*m:=by
 rw[JG,cq,gY,dw,cg,nh,<-fU];congr 2;omega
set_option maxRecDepth 20000
set_option maxHeartbeats 1000000
theorem of_d(z:Int)(hz: -9223372036854775808<=z/\z<=9223372036854775807):Fn Tryz.prog 81 [zI z] (.nm z):=by
 refine bq Tryz.func81 ak rfl rfl rfl fun X0=>?_;simp only[aQ];have hb:z.natAbs<65536^4:=by rw[show(65536:Nat)^4=18446744073709551616 by rfl];omega
 refine mZ ?_;refine Bp ?_;refine dv ?_;refine tL ?_;refine jK ?_;refine zs6 ?_;refine cJ ?_;refine aI (eX (t:=3) (k:=3) (T:=3) (wd:=1) jN rfl rfl dL) ?_;by_cases hn:z<0
 ·have M : ∀ l : List Nat, Dg.vl 65536 l = z.natAbs -> Dg.dig 65536 l -> l.length <= 4 -> Fn Tryz.prog 150 [.sc (.bool (decide (z < 0))), dN l] (.nm z) := fun l h1 h2 h3 => by
   have:=yR (decide (z<0)) l aa h2;rwa[h1,za]at this
  (refine aI (av (sl':=[(0,zI (-((z.natAbs:Nat):Int))),(2, .opt 2 0),(3, .own 3),(4, .sc (.bool (decide (z<0))))]) (ow':=[(3,⟨3,1,[]⟩),(2,⟨62,2,[.nm 0]⟩)]) aE aH) ?_)
  refine aX (fun r s=>∃l,Dg.dig 65536 l/\l.length<=4/\Dg.vl 65536 l+65536^l.length*r=z.natAbs/\r<=9223372036854775808/\s=⟨[(0,zI (-(r:Int))),(2, .opt 2 0),(3, .own 3),(4, .sc (.bool (decide (z<0))))],[(3,⟨3,1,l.map hN⟩),(2,⟨62,2,[.nm 0]⟩)]⟩) (m:=z.natAbs) ⟨[],fun _ h=>(by cases h),by simp,by simp[Dg.vl],by omega,rfl⟩ fun r s hs=>?_;obtain⟨l,h1,h2,h3,h4,rfl⟩:=hs;by_cases hr:r=0
  ·subst hr;refine zs1 ?_;refine jg ?_;refine bG ?_;refine aI (bB (k:=3) cr dG dF) ?_;refine cf ?_;refine zs43 ?_;refine oO ?_;refine dv ?_;exact⟨_,bB (k:=2) cr dG dF, .one (.cell 2 62) _ rfl (.cell 2 _ _ rfl rfl ak ak)⟩
  ·have hl:=EP (l:=l) (m:=r) aa aa;have e1:(-(r:Int)).tmod 65536= -((r%65536:Nat):Int):=by rw[Int.neg_tmod];rfl
   have e2:(-(r:Int)).tdiv 65536= -((r/65536:Nat):Int):=by rw[Int.neg_tdiv];rfl
   have h5:=AH l r;have h6:=mQ h1 (ed r (by omega:0<65536));have h7:(l++[r%65536]).length=l.length+1:=by simp
   have h8:=mJ l (r%65536);refine zs1 ?_;refine jg ?_;refine zs1 ?_;refine mj ?_;by_cases hd0:r%65536=0;all_goals
    refine jK ?_;refine Bn ?_;refine cJ ?_;refine oV ?_;refine zs1 ?_
    (first|(refine mj ?_;(refine zs1 ?_);(refine gar ?_;refine zs3 ?_;refine zs47 ?_;refine zs5 ?_;refine ba ?_);(refine zs1 ?_))|(refine mn ?_;(refine zs1 ?_)))
    (refine aI (av (sl':=[(0,zI (-(r:Int))),(2, .opt 2 0),(3, .own 3),(4, .sc (.bool (decide (z<0)))),(5,hN (r%65536))]) (ow':=[(3,⟨3,1,l.map hN⟩),(2,⟨62,2,[.nm 0]⟩)]) aE aH) ?_)
    refine zs1 ?_;refine oU ?_;refine zs1 ?_;refine tJ ?_;refine zs1 ?_;simp only[nx,inB];exact⟨r/65536,_,by omega,(av (sl':=[(0,zI (-((r/65536:Nat):Int))),(2, .opt 2 0),(3, .own 3),(4, .sc (.bool (decide (z<0))))]) (ow':=[(3,⟨3,1,l.map hN++[hN (r%65536)]⟩),(2,⟨62,2,[.nm 0]⟩)]) aE aH),l++[r%65536],h6,by omega,by omega,by omega,by rw[h8]⟩
 ·have M : ∀ l : List Nat, Dg.vl 65536 l = z.natAbs -> Dg.dig 65536 l -> l.length <= 4 -> Fn Tryz.prog 150 [.sc (.bool (decide (z < 0))), dN l] (.nm z) := fun l h1 h2 h3 => by
   have:=yR (decide (z<0)) l aa h2;rwa[h1,za]at this
  (refine aI (av (sl':=[(0,zI ((z.natAbs:Nat):Int)),(2, .opt 2 0),(3, .own 3),(4, .sc (.bool (decide (z<0))))]) (ow':=[(3,⟨3,1,[]⟩),(2,⟨62,2,[.nm 0]⟩)]) aE aH) ?_)
  refine aX (fun r s=>∃l,Dg.dig 65536 l/\l.length<=4/\Dg.vl 65536 l+65536^l.length*r=z.natAbs/\r<=9223372036854775807/\s=⟨[(0,zI (r:Int)),(2, .opt 2 0),(3, .own 3),(4, .sc (.bool (decide (z<0))))],[(3,⟨3,1,l.map hN⟩),(2,⟨62,2,[.nm 0]⟩)]⟩) (m:=z.natAbs) ⟨[],fun _ h=>(by cases h),by simp,by simp[Dg.vl],by omega,rfl⟩ fun r s hs=>?_;obtain⟨l,h1,h2,h3,h4,rfl⟩:=hs;by_cases hr:r=0
  ·subst hr;refine zs1 ?_;refine jg ?_;refine bG ?_;refine aI (bB (k:=3) cr dG dF) ?_;refine cf ?_;refine zs43 ?_;refine oO ?_;refine dv ?_;exact⟨_,bB (k:=2) cr dG dF, .one (.cell 2 62) _ rfl (.cell 2 _ _ rfl rfl ak ak)⟩
  ·have hl:=EP (l:=l) (m:=r) aa aa;have h5:=AH l r;have h6:=mQ h1 (ed r (by omega:0<65536));have h7:(l++[r%65536]).length=l.length+1:=by simp
   have h8:=mJ l (r%65536);refine zs1 ?_;refine jg ?_;refine bU ?_;refine ct ?_;refine Bn ?_;refine cJ ?_;refine oV ?_;refine bG ?_;refine oU ?_;refine zs1 ?_;refine tJ ?_;refine zs1 ?_;simp only[nx,inB];exact⟨r/65536,_,by omega,(av (sl':=[(0,hN (r/65536)),(2, .opt 2 0),(3, .own 3),(4, .sc (.bool (decide (z<0))))]) (ow':=[(3,⟨3,1,l.map hN++[hN (r%65536)]⟩),(2,⟨62,2,[.nm 0]⟩)]) aE aH),l++[r%65536],h6,by omega,by omega,by omega,by rw[h8]⟩
end DW
end
section
open Go.RowKit
namespace DW
theorem Mf{a b:Nat}(h:hd a=hd b):a=b:=by rw[<-kj a,<-kj b,h]
theorem wI{a b:Nat}(h:(hd a).length<(hd b).length):a<b:=by
 have:=Dg.ij (b:=65536) az (Dg.cH az a).1 (Dg.cH az b).1 h;rwa[(Dg.cH az a).2,(Dg.cH az b).2]at this
theorem Fj{a b i:Nat}(hi:i<(hd a).length)(hl:(hd a).length=(hd b).length)(hd':(hd a).drop (i+1)=(hd b).drop (i+1))(h:(hd a).getD i 0<(hd b).getD i 0):a<b:=by
 have:=Dg.lex_lt (lA a) hi hl hd' h;rwa[kj,kj]at this
theorem AS{a i:Nat}(hi:i<(hd a).length):(hd a).drop i=(hd a).getD i 0::(hd a).drop (i+1):=by
 rw[rR hi,aF,aV hi];rfl
theorem oF{a i:Nat}(hi:i<(hd a).length):(hd a)[i]?=some ((hd a).getD i 0):=nA hi
theorem sk{l:List Nat}{i:Nat}(h:l.length<=i):l.getD i 0=0:=by rw[aF,gw h];rfl
set_option maxRecDepth 20000
set_option maxHeartbeats 1000000
theorem L1(a b:Nat)(ha:(hd a).length<=900000000)(hb:(hd b).length<=900000000):Fn Tryz.prog 153 [dN (hd a),dN (hd b)] (.sc (.bool (decide (a<b)))):=by
 refine bq Tryz.func153 ak rfl rfl rfl fun X0=>?_;simp only[aQ];by_cases hl:(hd a).length=(hd b).length
 ·refine fR ?_;refine wX ?_;refine bG ?_;refine gn ?_;refine zs18 ?_;refine cJ ?_
  (refine aI (av (sl':=[(0,dN (hd a)),(1,dN (hd b)),(5,zI ((hd a).length-1))]) (ow':=[]) aE aH) ?_)
  refine aX (fun r s=>r<=(hd a).length/\(hd a).drop r=(hd b).drop r/\s=⟨[(0,dN (hd a)),(1,dN (hd b)),(5,zI (r-1))],[]⟩) (m:=(hd a).length) ⟨af _,by rw[qK,hl,qK],rfl⟩ fun r s hs=>?_;obtain⟨h1,h2,rfl⟩:=hs;by_cases hr:r=0
  ·have e:a=b:=Mf (by subst hr;simpa using h2);refine zs1 ?_;refine oV ?_;refine bG ?_;refine kV ?_;rw[show decide (a<b)=false from aA aa];exact⟨_,Sh.refl, .one (.tmp 4) _ rfl (.tmp 4 rfl)⟩
  ·obtain⟨i,rfl⟩:∃i,r=i+1:=⟨r-1,by omega⟩;have hi:i<(hd a).length:=by omega
   have hi':i<(hd b).length:=by omega
   have hx:=oF hi;have hy:=oF hi';have hc:((i+1:Nat):Int)-1=(i:Int):=by omega
   have k1:=AS hi;have k2:=AS hi';have k3:(hd a).getD i 0<(hd b).getD i 0->a<b:=Fj hi hl h2;have k4:(hd b).getD i 0<(hd a).getD i 0->b<a:=Fj hi' hl.symm h2.symm;obtain⟨x,hxd⟩:∃x,x=(hd a).getD i 0:=⟨_,rfl⟩;obtain⟨y,hyd⟩:∃y,y=(hd b).getD i 0:=⟨_,rfl⟩;rw[<-hxd]at hx k1 k3 k4;rw[<-hyd]at hy k2 k3 k4;by_cases hxy:x=y
   ·have k5:(hd a).drop i=(hd b).drop i:=by rw[k1,k2,hxy,h2]
    refine zs1 ?_;refine oV ?_;refine bU ?_;refine Iw ?_;refine bG ?_;refine ct ?_;refine zs18 ?_;refine cJ ?_;simp only[nx,inB];exact⟨i,_,by omega,(av (sl':=[(0,dN (hd a)),(1,dN (hd b)),(5,zI ((i:Int)-1))]) (ow':=[]) aE aH),by omega,k5,rfl⟩
   ·have k5 : decide ((x : Int) < (y : Int)) = decide (a < b) := by
     by_cases h:x<y
     ·rw[ay aa,ay (k3 h)]
     ·rw[aA aa,aA (by have:=k4 aa;omega)]
    refine zs1 ?_;refine oV ?_;refine bU ?_;refine Iw ?_;refine bU ?_;refine zs57 ?_;refine tI ?_;refine tI ?_;refine zs58 ?_;refine sO ?_;refine gS ?_;refine zs1 ?_;rw[<-k5];exact⟨_,Sh.refl, .one (.tmp 4) _ rfl (.tmp 4 rfl)⟩
 ·have k5 : decide (((hd a).length : Int) < ((hd b).length : Int)) = decide (a < b) := by
   by_cases h:(hd a).length<(hd b).length
   ·rw[ay aa,ay (wI h)]
   ·rw[aA aa,aA (by have:=wI (a:=b) (b:=a) aa;omega)]
  refine fR ?_;refine wX ?_;refine bU ?_;refine gn ?_;refine zs3 ?_;refine zs4 ?_;refine mq ?_;refine cJ ?_;rw[<-k5];exact⟨_,Sh.refl, .one (.tmp 4) _ rfl (.tmp 4 rfl)⟩
theorem EL{a b o:List Nat}{i c:Nat}(hi:o.length=i)(h:Dg.vl 65536 o+c*65536^i=Dg.vl 65536 (a.take i)+Dg.vl 65536 (b.take i)):
  Dg.vl 65536 (o++[(c+a.getD i 0+b.getD i 0)%65536])+(c+a.getD i 0+b.getD i 0)/65536*65536^(i+1)=Dg.vl 65536 (a.take (i+1))+Dg.vl 65536 (b.take (i+1)):=by
 have:=Dg.np (B:=65536) (a:=a) (b:=b) (o:=o++[0]) (i:=i) (c:=c) dK zb46;rw[show a.getD i 0+b.getD i 0+c=c+a.getD i 0+b.getD i 0 by omega,Dg.jn dK,my aa,cR aa]at this;exact this
theorem J7(a b:Nat)(ha:(hd a).length<=400000000)(hb:(hd b).length<=400000000):Fn Tryz.prog 152 [dN (hd a),dN (hd b)] (dN (hd (a+b))):=by
 refine bq Tryz.func152 ak rfl rfl rfl fun X0=>?_;simp only[aQ];refine jL ?_;refine kX ?_;refine ew ?_;refine aI (eX (t:=5) (k:=5) (T:=3) (wd:=1) jN rfl rfl dL) ?_
 (refine aI (av (sl':=[(0,dN (hd a)),(1,dN (hd b)),(5, .own 5),(6,zI 0),(7,zI 0)]) (ow':=[(5,⟨3,1,[]⟩)]) aE aH) ?_)
 obtain⟨M,hM⟩:∃M,M=max (hd a).length (hd b).length:=⟨_,rfl⟩;refine aX (fun r s=>∃i o c,r=M+1-i/\o.length=i/\Dg.dig 65536 o/\c<=1/\(i<=M\/(i<=M+1/\c=0))/\Dg.vl 65536 o+c*65536^i=Dg.vl 65536 ((hd a).take i)+Dg.vl 65536 ((hd b).take i)/\s=⟨[(0,dN (hd a)),(1,dN (hd b)),(5, .own 5),(6,zI (c:Nat)),(7,zI (i:Nat))],[(5,⟨3,1,o.map hN⟩)]⟩) (m:=M+1) ⟨0,[],0,by omega,rfl,fun _ h=>(by cases h),by omega, .inl aa,by simp[Dg.vl],rfl⟩ fun r s hs=>?_;obtain⟨i,o,c,rfl,ho,hdo,hc,hiM,hv,rfl⟩:=hs;have STEP:=EL (a:=hd a) (b:=hd b) ho hv;have hxl:(hd a).getD i 0<65536:=Dg.bw (lA a) az i;have hyl:(hd b).getD i 0<65536:=Dg.bw (lA b) az i;have hx:i<(hd a).length->(hd a)[i]?=some ((hd a).getD i 0):=oF;have hy:i<(hd b).length->(hd b)[i]?=some ((hd b).getD i 0):=oF;have hx0:(hd a).length<=i->(hd a).getD i 0=0:=sk;have hy0:(hd b).length<=i->(hd b).getD i 0=0:=sk;obtain⟨x,hxd⟩:∃x,x=(hd a).getD i 0:=⟨_,rfl⟩;obtain⟨y,hyd⟩:∃y,y=(hd b).getD i 0:=⟨_,rfl⟩;rw[<-hxd]at STEP hxl hx hx0;rw[<-hyd]at STEP hyl hy hy0;have hdig:=mQ hdo (ed (c+x+y) (by omega:0<65536));have hms:=mJ o ((c+x+y)%65536);have hlen:(o++[(c+x+y)%65536]).length=i+1:=by simp[ho]
 have kx:(hd a).length<=M:=by omega
 have ky:(hd b).length<=M:=by omega
 have kM:M<=(hd a).length\/M<=(hd b).length:=by omega
 have kM2:M<=400000000:=by omega
 clear hM hxd hyd;by_cases hend:M<=i/\c=0
 ·obtain⟨h1,h2⟩:=hend;have e:Dg.vl 65536 o=a+b:=by
   subst h2;rw[cR aa,cR aa,kj,kj]at hv;omega
  have T:=Ci (l:=o) aa hdo e;refine zs1 ?_;refine Iv ?_;refine bG ?_;refine aI (bB (k:=5) cr dG dF) ?_;refine jJ ?_;exact⟨_,Sh.refl, .one (.tmp 4) _ rfl (.tmp 4 rfl)⟩
 ·have hcases:((i<(hd a).length)\/(i<(hd b).length/\(hd a).length<=i))\/(c>0/\(hd a).length<=i/\(hd b).length<=i):=by omega
  have hxe:i<(hd a).length\/((hd a).length<=i/\x=0):=by
   by_cases h:i<(hd a).length
   ·exact .inl h
   ·exact .inr ⟨by omega,hx0 aa⟩
  have hye:i<(hd b).length\/((hd b).length<=i/\y=0):=by
   by_cases h:i<(hd b).length
   ·exact .inl h
   ·exact .inr ⟨by omega,hy0 aa⟩
  rcases hcases with(h1|⟨h1,h2⟩)|⟨h1,h2,h3⟩;all_goals
   rcases hxe with h4|⟨h4,h5⟩;all_goals
    rcases hye with h6|⟨h6,h7⟩;all_goals
     first
      |(exfalso;omega;done)
      | ((refine zs1 ?_); refine Iv ?_; (refine zs1 ?_)
         refine mj ?_;refine rH ?_
         (first|(refine mj ?_;(refine zs1 ?_);(refine gar ?_;refine zs3 ?_;refine zs3 ?_;refine zs3 ?_;(refine aL1 rfl rfl rfl (by(first|(apply kr;(exact rfl);(focus((apply aw;(conv=>lhs;whnf);(first|done|exact rfl))));(focus((apply aw;(conv=>lhs;whnf);(first|done|exact rfl))));(kernel_rfl);(kernel_rfl);(omega);(focus((first|(apply get_map;exact hx h4)|(apply get_map;assumption)|(apply get_own;assumption)))))|(apply ja;(exact rfl);(focus((apply aw;(conv=>lhs;whnf);(first|done|exact rfl))));(focus((apply aw;(conv=>lhs;whnf);(first|done|exact rfl))));(focus((repeat(first|exact br|refine bz _ ?_))));(kernel_rfl);(kernel_rfl);(focus(first|omega|(simp;omega)));(focus(first|(apply fM;assumption)|exact rfl))))) ?_);(refine aL1 rfl rfl rfl (by(first|(apply uQ;(exact rfl);(focus((apply aw;(conv=>lhs;whnf);(first|done|exact rfl))));(exact rfl);(focus((first|exact gD|exact gB|exact gC|exact wd_pt|exact rfl)));(exact rfl);(kernel_rfl);(kernel_rfl))|(apply ku;(exact rfl);(focus((apply aw;(conv=>lhs;whnf);(first|done|exact rfl))));(focus((repeat(first|exact br|refine bz _ ?_))));(exact jG);(exact rfl);(exact rfl);(focus((first|exact gD|exact gB|exact gC|exact wd_pt|exact rfl)));(exact rfl);(kernel_rfl);(kernel_rfl))|(apply lp;(exact rfl);(focus((apply aw;(conv=>lhs;whnf);(first|done|exact rfl))));(focus((repeat(first|exact br|refine bz _ ?_))));(exact rfl);(focus((first|exact jG|(apply pL;assumption)|assumption|(apply get_map;exact hx h4)|exact rfl)));(exact rfl);(focus((first|exact gD|exact gB|exact gC|exact wd_pt|exact rfl)));(exact rfl);(kernel_rfl);(kernel_rfl))|(apply d_load_row;(exact rfl);(focus((apply aw;(conv=>lhs;whnf);(first|done|exact rfl))));(focus((repeat(first|exact br|refine bz _ ?_))));(exact rfl);(focus(first|(apply fM;assumption)|exact rfl));(assumption);(kernel_rfl);(kernel_rfl)))) ?_);refine sL ?_;refine zs5 ?_;refine ba ?_);(refine zs1 ?_))|(refine mn ?_;(refine zs1 ?_)))
         refine rH ?_
         (first|(refine mj ?_;(refine zs1 ?_);(refine gar ?_;refine zs3 ?_;refine zs3 ?_;refine zs3 ?_;refine zs64 ?_;refine zs65 ?_;refine sL ?_;refine zs5 ?_;refine ba ?_);(refine zs1 ?_))|(refine mn ?_;(refine zs1 ?_)))
         (refine aI (av (sl':=[(0,dN (hd a)),(1,dN (hd b)),(5, .own 5),(6,zI ((c+x+y:Nat):Int)),(7,zI (i:Nat))]) (ow':=[(5,⟨3,1,o.map hN⟩)]) aE aH) ?_)
         refine zs1 ?_;refine cf ?_;refine Bn ?_;refine qk ?_;refine sM ?_;refine cJ ?_;refine tJ ?_;refine je ?_;simp only[nx,inB];exact⟨M+1-(i+1),_,by omega,(av (sl':=[(0,dN (hd a)),(1,dN (hd b)),(5, .own 5),(6,zI (((c+x+y)/65536:Nat):Int)),(7,zI ((i+1:Nat):Int))]) (ow':=[(5,⟨3,1,o.map hN++[hN ((c+x+y)%65536)]⟩)]) aE aH),i+1,o++[(c+x+y)%65536],(c+x+y)/65536,rfl,hlen,hdig,by omega,by omega,STEP,by rw[hms]⟩)
end DW
end
end Go.Proofs.YtcgjmdpcplhanaaGreat
