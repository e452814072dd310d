/- Lemmas for the law: H3 E1 E2 E3 -/
import Derived.Test.YtcgjmdpcplhanaaGreatZi2
namespace Go.Proofs.YtcgjmdpcplhanaaGreat
section
abbrev aF:=@decide_eq_false
abbrev aB:=@decide_eq_true
abbrev ic:=@List.length_nil
abbrev iJ:=@Nat.lt_succ_self
abbrev eR:=@List.map_append
abbrev uT:=@Nat.pow_mul
abbrev gf:=@Nat.le_mul_of_pos_right
theorem uM{p:Prop}(h:p:=by(apply Bo;(exact rfl);(focus((apply az;(conv=>lhs;whnf);(first|done|exact rfl))));(exact rfl);(assumption);(exact rfl))):p:=h
theorem jx{p q:Prop}(h:q)(f:Wq q->p:=by(intro hW;(refine aL1 rfl rfl rfl uM ?_);exact hW.out)):p:=f ⟨h⟩
theorem zb1{p:Prop}(h:p:=by(first|(apply sR;(exact rfl);(focus((apply az;(conv=>lhs;whnf);(first|done|exact rfl))));(exact rfl);(focus((first|exact fq|exact fm|exact fo|exact wd_pt|exact rfl)));(exact rfl);(kernel_rfl);(kernel_rfl))|(apply jN;(exact rfl);(focus((apply az;(conv=>lhs;whnf);(first|done|exact rfl))));(focus((repeat(first|exact bw|refine bC _ ?_))));(exact iB);(exact rfl);(exact rfl);(focus((first|exact fq|exact fm|exact fo|exact wd_pt|exact rfl)));(exact rfl);(kernel_rfl);(kernel_rfl))|(apply kg;(exact rfl);(focus((apply az;(conv=>lhs;whnf);(first|done|exact rfl))));(focus((repeat(first|exact bw|refine bC _ ?_))));(exact rfl);(focus((first|exact iB|(apply nQ;assumption)|assumption|exact rfl)));(exact rfl);(focus((first|exact fq|exact fm|exact fo|exact wd_pt|exact rfl)));(exact rfl);(kernel_rfl);(kernel_rfl))|(apply d_load_row;(exact rfl);(focus((apply az;(conv=>lhs;whnf);(first|done|exact rfl))));(focus((repeat(first|exact bw|refine bC _ ?_))));(exact rfl);(focus(first|(apply fA;assumption)|exact rfl));(assumption);(kernel_rfl);(kernel_rfl)))):p:=h
theorem gL{p q:Prop}(h:q)(f:Wq q->p:=by(intro hW;(refine aL1 rfl rfl rfl zb1 ?_);exact hW.out)):p:=f ⟨h⟩
theorem yq{p q:Prop}(h:q)(f:Wq q->p:=by(intro hW;(refine gar ?_;refine gL ?_);exact hW.out)):p:=f ⟨h⟩
theorem mC{p q:Prop}(h:q)(f:Wq q->p:=by(intro hW;(refine yq ?_;refine jx ?_);exact hW.out)):p:=f ⟨h⟩
theorem uO{p:Prop}(h:p:=by first|exact rfl|(apply Ep;intro _;exact rfl)|(apply R9;apply Ep;intro _;exact rfl)|(apply nw_drop;apply Ep;intro _;exact rfl)|(simp[D.nw];done)):p:=h
theorem aH{p:Prop}(h:p:=by(repeat(first|exact bw|refine bC _ ?_))):p:=h
theorem aj{p:Prop}(h:p:=by exact rfl):p:=h
theorem cG{p:Prop}(h:p:=by(repeat(first|exact ug|(apply qU;(exact rfl))|(apply uh;(exact rfl))))):p:=h
theorem uL{p:Prop}(h:p:=by(repeat(first|exact Rk|apply Rl|(apply Nn;(exact rfl))))):p:=h
theorem cO{p:Prop}(h:p:=by(apply az;(conv=>lhs;whnf);(first|done|exact rfl))):p:=h
theorem zs16{p q:Prop}(h:q)(f:Wq q->p:=by(intro hW;((refine oQ rfl rfl rfl rfl cO cO aH aj uO ah ah (by(first|omega|(simp;done)|(simp;omega))) cG uL ?_));exact hW.out)):p:=f ⟨h⟩
theorem zs15{p q:Prop}(h:q)(f:Wq q->p:=by(intro hW;(refine aL1 rfl rfl rfl (by(apply Kj;(exact rfl);(focus((apply az;(conv=>lhs;whnf);(first|done|exact rfl))));(focus((apply az;(conv=>lhs;whnf);(first|done|exact rfl))));(kernel_rfl);(kernel_rfl);(focus(first|exact mP _|exact rfl));(focus(first|omega|(simp;omega))))) ?_);exact hW.out)):p:=f ⟨h⟩
theorem C4{p:Prop}(h:p:=by(apply ux;(exact rfl);(focus((apply az;(conv=>lhs;whnf);(first|done|exact rfl)))))):p:=h
theorem zs6{p q:Prop}(h:q)(f:Wq q->p:=by(intro hW;(refine aL1 rfl rfl rfl C4 ?_);exact hW.out)):p:=f ⟨h⟩
theorem de{p q:Prop}(h:q)(f:Wq q->p:=by(intro hW;(refine zs6 ?_;refine bc ?_);exact hW.out)):p:=f ⟨h⟩
theorem zs14{p q:Prop}(h:q)(f:Wq q->p:=by(intro hW;((refine H9 (k:=18) (wd:=1) (T:=Tryz.prog.elem 40) rfl rfl rfl rfl ah ah aj aj cG ?_));exact hW.out)):p:=f ⟨h⟩
theorem ry{p:Prop}(h:p:=by(apply MD;(exact rfl);(focus((apply az;(conv=>lhs;whnf);(first|done|exact rfl)))))):p:=h
theorem zs4{p q:Prop}(h:q)(f:Wq q->p:=by(intro hW;(refine aL1 rfl rfl rfl ry ?_);exact hW.out)):p:=f ⟨h⟩
theorem PO{p q:Prop}(h:q)(f:Wq q->p:=by(intro hW;(refine gar ?_;refine zs14 ?_;refine zs4 ?_;refine zs4 ?_;refine zs15 ?_;refine zs16 ?_;refine de ?_);exact hW.out)):p:=f ⟨h⟩
theorem Jd{p:Prop}(h:p:=by rw[HB5.out];simp;omega):p:=h
theorem zb101{p:Prop}(h:p:=by simp only[];omega):p:=h
theorem zb31{p:Prop}(h:p:=by first|with_reducible rfl|exact zu aa|exact zu zb101|exact zu aV|(apply zu;omega)|(apply bq;(first|(apply aF;omega)|(apply aB;omega)|(simp<;>omega)))):p:=h
theorem jf{p:Prop}(h:p:=by(apply br;(conv=>lhs;whnf);(first|done|exact rfl))):p:=h
theorem aO{p:Prop}(h:p:=by(repeat(first|exact Rs|refine Nz jf zb31 ?_))):p:=h
theorem xr{p:Prop}(h:p:=by(first|(apply OY;(exact rfl);(focus((apply az;(conv=>lhs;whnf);(first|done|exact rfl))));(kernel_rfl);(kernel_rfl))|(apply uw;(exact rfl);(focus((apply az;(conv=>lhs;whnf);(first|done|exact rfl))));(kernel_rfl);(exact rfl);(kernel_rfl)))):p:=h
theorem xi{p q:Prop}(h:q)(f:Wq q->p:=by(intro hW;(refine aL1 rfl rfl rfl xr ?_);exact hW.out)):p:=f ⟨h⟩
theorem qC{p q:Prop}(h:q)(f:Wq q->p:=by(intro hW;(refine gar ?_;refine xi ?_;refine gL ?_);exact hW.out)):p:=f ⟨h⟩
theorem I4{p q:Prop}(h:q)(f:Wq q->p:=by(intro hW;(refine qC ?_;refine bc ?_);exact hW.out)):p:=f ⟨h⟩
theorem cE{p:Prop}(h:p:=by(apply br;(conv=>lhs;whnf);(first|done|exact rfl|(apply bq;(first|(apply aB;omega)|(apply aF;omega)|assumption|(simp;done)))))):p:=h
theorem zb22{p:Prop}(h:p:=by(first|(apply eP;(exact rfl);(focus((apply az;(conv=>lhs;whnf);(first|done|exact rfl))));(exact cj);(exact rfl))|(apply QI;(exact rfl);(focus((apply az;(conv=>lhs;whnf);(first|done|exact rfl))));(exact cj);(kernel_rfl)))):p:=h
theorem Az{p q:Prop}(h:q)(f:Wq q->p:=by(intro hW;((first|(refine aLs rfl rfl rfl rfl ?_ ?_;(focus(apply br;(conv=>lhs;whnf);(first|done|exact rfl|(apply bq;(first|(apply aB;omega)|(apply aF;omega)|assumption|(simp;done)))))))|refine aLw rfl rfl rfl rfl cE zb22 ?_));exact hW.out)):p:=f ⟨h⟩
theorem dC{p:Prop}(h:p:=by(first|exact fq|exact fm|exact fo|exact wd_pt|exact rfl)):p:=h
theorem Ip{p q:Prop}(h:q)(f:Wq q->p:=by(intro hW;((refine dV (k:=2) (z:=(.agg #[.bool false,.slice none 0 0])) (d:=(.nm 0)) rfl rfl rfl rfl rfl ah aj aj dC aj aj cG ?_));exact hW.out)):p:=f ⟨h⟩
theorem gY{p q:Prop}(h:q)(f:Wq q->p:=by(intro hW;((apply qw;(focus(first|(apply az;(conv=>lhs;whnf);(first|done|exact rfl))|with_reducible exact cj|with_reducible exact lu|with_reducible exact sG|exact op_zero));(focus(first|with_reducible rfl|(apply aB;omega)|assumption|(simp<;>omega)))));exact hW.out)):p:=f ⟨h⟩
theorem zs8{p q:Prop}(h:q)(f:Wq q->p:=by(intro hW;((first|(refine aLs rfl rfl rfl rfl ?_ ?_;(focus(apply br;(conv=>lhs;whnf);(first|done|exact rfl|(apply bq;(first|(apply aB;omega)|(apply aF;omega)|assumption|(simp;done)))))))|refine aLw rfl rfl rfl rfl cE ry ?_));exact hW.out)):p:=f ⟨h⟩
theorem cF{p q:Prop}(h:q)(f:Wq q->p:=by(intro hW;(refine gar ?_;refine zs4 ?_);exact hW.out)):p:=f ⟨h⟩
theorem zb23{p:Prop}(h:p:=by(first|(apply eP;(exact rfl);(focus((apply az;(conv=>lhs;whnf);(first|done|exact rfl))));(exact cj);(exact rfl))|(apply QF;(exact rfl);(focus((apply az;(conv=>lhs;whnf);(first|done|exact rfl))));(exact cj);(kernel_rfl)))):p:=h
theorem zs43{p q:Prop}(h:q)(f:Wq q->p:=by(intro hW;(refine aL1 rfl rfl rfl zb23 ?_);exact hW.out)):p:=f ⟨h⟩
theorem qG{p q:Prop}(h:q)(f:Wq q->p:=by(intro hW;(refine cF ?_;refine zs43 ?_;refine bc ?_);exact hW.out)):p:=f ⟨h⟩
theorem xt{p:Prop}(h:p:=by(first|(apply Ki;(exact rfl);(focus((apply az;(conv=>lhs;whnf);(first|done|exact rfl))));(kernel_rfl);(kernel_rfl))|(apply uw;(exact rfl);(focus((apply az;(conv=>lhs;whnf);(first|done|exact rfl))));(kernel_rfl);(exact rfl);(kernel_rfl)))):p:=h
theorem CX{p q:Prop}(h:q)(f:Wq q->p:=by(intro hW;((first|refine fR rfl rfl rfl aj xt aj aj ?_|((try refine bn ?_);refine aL1 rfl rfl rfl xt ?_)));exact hW.out)):p:=f ⟨h⟩
theorem kH{p q:Prop}(h:q)(f:Wq q->p:=by(intro hW;((try refine bn ?_);refine bc ?_);exact hW.out)):p:=f ⟨h⟩
theorem zb4{p:Prop}(h:p:=by(first|(apply jM;(exact rfl);(focus((apply az;(conv=>lhs;whnf);(first|done|exact rfl))));(focus((apply az;(conv=>lhs;whnf);(first|done|exact rfl))));(kernel_rfl);(kernel_rfl);(omega);(focus((first|(apply get_map;assumption)|(apply get_own;assumption)))))|(apply gX;(exact rfl);(focus((apply az;(conv=>lhs;whnf);(first|done|exact rfl))));(focus((apply az;(conv=>lhs;whnf);(first|done|exact rfl))));(focus((repeat(first|exact bw|refine bC _ ?_))));(kernel_rfl);(kernel_rfl);(focus(first|omega|(simp;omega)));(focus(first|(apply fA;assumption)|exact rfl))))):p:=h
theorem zs10{p q:Prop}(h:q)(f:Wq q->p:=by(intro hW;((first|(refine aLs rfl rfl rfl rfl ?_ ?_;(focus(apply br;(conv=>lhs;whnf);(first|done|exact rfl|(apply bq;(first|(apply aB;omega)|(apply aF;omega)|assumption|(simp;done)))))))|refine aLw rfl rfl rfl rfl cE zb4 ?_));exact hW.out)):p:=f ⟨h⟩
theorem zb24{p:Prop}(h:p:=by(first|(apply QC;(exact rfl);(focus((apply az;(conv=>lhs;whnf);(first|done|exact rfl))));(exact cj);(omega))|(apply eP;(exact rfl);(focus((apply az;(conv=>lhs;whnf);(first|done|exact rfl))));(exact cj);(exact rfl)))):p:=h
theorem zs9{p q:Prop}(h:q)(f:Wq q->p:=by(intro hW;((first|(refine aLs rfl rfl rfl rfl ?_ ?_;(focus(apply br;(conv=>lhs;whnf);(first|done|exact rfl|(apply bq;(first|(apply aB;omega)|(apply aF;omega)|assumption|(simp;done)))))))|refine aLw rfl rfl rfl rfl cE zb24 ?_));exact hW.out)):p:=f ⟨h⟩
theorem zb0{p:Prop}(h:p:=by(first|(apply sR;(exact rfl);(focus((apply az;(conv=>lhs;whnf);(first|done|exact rfl))));(exact rfl);(focus((first|exact fq|exact fm|exact fo|exact wd_pt|exact rfl)));(exact rfl);(kernel_rfl);(kernel_rfl))|(apply jN;(exact rfl);(focus((apply az;(conv=>lhs;whnf);(first|done|exact rfl))));(focus((repeat(first|exact bw|refine bC _ ?_))));(exact iB);(exact rfl);(exact rfl);(focus((first|exact fq|exact fm|exact fo|exact wd_pt|exact rfl)));(exact rfl);(kernel_rfl);(kernel_rfl))|(apply kg;(exact rfl);(focus((apply az;(conv=>lhs;whnf);(first|done|exact rfl))));(focus((repeat(first|exact bw|refine bC _ ?_))));(exact rfl);(focus((first|exact iB|(apply nQ;assumption)|assumption|(apply ED;(focus assumption);(focus assumption))|exact rfl)));(exact rfl);(focus((first|exact fq|exact fm|exact fo|exact wd_pt|exact rfl)));(exact rfl);(kernel_rfl);(kernel_rfl))|(apply d_load_row;(exact rfl);(focus((apply az;(conv=>lhs;whnf);(first|done|exact rfl))));(focus((repeat(first|exact bw|refine bC _ ?_))));(exact rfl);(focus(first|(apply fA;assumption)|exact rfl));(assumption);(kernel_rfl);(kernel_rfl)))):p:=h
theorem zs18{p q:Prop}(h:q)(f:Wq q->p:=by(intro hW;((first|(refine aLs rfl rfl rfl rfl ?_ ?_;(focus(apply br;(conv=>lhs;whnf);(first|done|exact rfl|(apply bq;(first|(apply aB;omega)|(apply aF;omega)|assumption|(simp;done)))))))|refine aLw rfl rfl rfl rfl cE zb0 ?_));exact hW.out)):p:=f ⟨h⟩
theorem fS{p q:Prop}(h:q)(f:Wq q->p:=by(intro hW;(refine zs4 ?_;refine zs8 ?_);exact hW.out)):p:=f ⟨h⟩
theorem zb3{p:Prop}(h:p:=by(first|(apply jM;(exact rfl);(focus((apply az;(conv=>lhs;whnf);(first|done|exact rfl))));(focus((apply az;(conv=>lhs;whnf);(first|done|exact rfl))));(kernel_rfl);(kernel_rfl);(omega);(focus((first|(apply ED;(focus assumption);(focus assumption))|(apply get_map;assumption)|(apply get_own;assumption)))))|(apply gX;(exact rfl);(focus((apply az;(conv=>lhs;whnf);(first|done|exact rfl))));(focus((apply az;(conv=>lhs;whnf);(first|done|exact rfl))));(focus((repeat(first|exact bw|refine bC _ ?_))));(kernel_rfl);(kernel_rfl);(focus(first|omega|(simp;omega)));(focus(first|(apply fA;assumption)|exact rfl))))):p:=h
theorem zs17{p q:Prop}(h:q)(f:Wq q->p:=by(intro hW;((first|(refine aLs rfl rfl rfl rfl ?_ ?_;(focus(apply br;(conv=>lhs;whnf);(first|done|exact rfl|(apply bq;(first|(apply aB;omega)|(apply aF;omega)|assumption|(simp;done)))))))|refine aLw rfl rfl rfl rfl cE zb3 ?_));exact hW.out)):p:=f ⟨h⟩
theorem xp{p:Prop}(h:p:=by(apply eP;(exact rfl);(focus((apply az;(conv=>lhs;whnf);(first|done|exact rfl))));(exact cj);(exact rfl))):p:=h
theorem zs7{p q:Prop}(h:q)(f:Wq q->p:=by(intro hW;(refine aL1 rfl rfl rfl xp ?_);exact hW.out)):p:=f ⟨h⟩
theorem zb6{p:Prop}(h:p:=by(first|(apply Fz;(exact rfl);(focus((apply az;(conv=>lhs;whnf);(first|done|exact rfl))));(focus(first|exact rfl|(apply aB;omega)|assumption|(simp;done)));(focus((apply az;(conv=>lhs;whnf);(first|done|exact rfl)))))|(apply FD;(exact rfl);(focus((apply az;(conv=>lhs;whnf);(first|done|exact rfl))));(focus(first|exact rfl|(apply aF;omega)|assumption|(simp;done)));(exact lu))|(apply d_pick;(exact rfl);(focus((apply az;(conv=>lhs;whnf);(first|done|exact rfl))));(focus((apply az;(conv=>lhs;whnf);(first|done|exact rfl))));(exact lu);(exact rfl)))):p:=h
theorem nB{p q:Prop}(h:q)(f:Wq q->p:=by(intro hW;(refine aL1 rfl rfl rfl zb6 ?_);exact hW.out)):p:=f ⟨h⟩
theorem PN{p q:Prop}(h:q)(f:Wq q->p:=by(intro hW;(refine cF ?_;refine zs7 ?_;refine fS ?_;refine zs8 ?_;refine zs9 ?_;refine zs17 ?_;refine zs18 ?_;refine Az ?_;refine nB ?_;refine bc ?_);exact hW.out)):p:=f ⟨h⟩
theorem aS{p:Prop}(h:p:=by(repeat(first|exact Ny|(apply KO;(focus(repeat(first|exact bw|refine bC _ ?_))))))):p:=h
theorem zs2{p q:Prop}(h:q)(f:Wq q->p:=by(intro hW;(repeat(first|refine Pa ?_|refine FZ ?_|refine Hz ?_|refine H5 ?_|refine MY ?_|with_reducible refine nx_c ?_|with_reducible refine nx_e ?_|with_reducible refine nx_r ?_|with_reducible refine in_n ?_|with_reducible refine in_r ?_|with_reducible refine in_e ?_|with_reducible refine in_x aj ?_));exact hW.out)):p:=f ⟨h⟩
theorem ck{p q:Prop}(h:q)(f:Wq q->p:=by(intro hW;(refine cF ?_;refine zs4 ?_);exact hW.out)):p:=f ⟨h⟩
theorem C6{p:Prop}(h:p:=by(apply QH;(exact rfl);(focus((apply az;(conv=>lhs;whnf);(first|done|exact rfl))));(exact rfl);(focus((first|exact fq|exact fm|exact fo|exact wd_pt|exact rfl)));(kernel_rfl);(kernel_rfl);(exact rfl);(exact rfl))):p:=h
theorem pJ{p q:Prop}(h:q)(f:Wq q->p:=by(intro hW;(refine aL1 rfl rfl rfl C6 ?_);exact hW.out)):p:=f ⟨h⟩
theorem Ax{p q:Prop}(h:q)(f:Wq q->p:=by(intro hW;((refine oQ rfl rfl rfl rfl cO cO aH aj uO ah ah (by(simp only[bI,ir,ic];omega)) cG uL ?_));exact hW.out)):p:=f ⟨h⟩
theorem vX{p q:Prop}(h:q)(f:Wq q->p:=by(intro hW;(refine ck ?_;refine pJ ?_;refine Ax ?_;refine de ?_);exact hW.out)):p:=f ⟨h⟩
theorem ib{p q:Prop}(h:q)(f:Wq q->p:=by(intro hW;((apply rp;(focus(first|(apply az;(conv=>lhs;whnf);(first|done|exact rfl))|with_reducible exact cj|with_reducible exact lu|with_reducible exact sG|exact op_zero));(focus(first|with_reducible rfl|(apply aF;omega)|assumption|(simp<;>omega)))));exact hW.out)):p:=f ⟨h⟩
theorem bK{p q:Prop}(h:q)(f:Wq q->p:=by(intro hW;(refine zs2 ?_;refine ib ?_;refine zs2 ?_);exact hW.out)):p:=f ⟨h⟩
theorem mG{p q:Prop}(h:q)(f:Wq q->p:=by(intro hW;(refine zs2 ?_;refine qG ?_;refine bK ?_);exact hW.out)):p:=f ⟨h⟩
theorem zb2{p:Prop}(h:p:=by(first|(apply Uf;(exact rfl);(focus((apply az;(conv=>lhs;whnf);(first|done|exact rfl))));(kernel_rfl))|(apply Kk;(exact rfl);(focus((apply az;(conv=>lhs;whnf);(first|done|exact rfl))));(focus((repeat(first|exact bw|refine bC _ ?_))));(kernel_rfl))|(apply d_len;(exact rfl);(focus((apply az;(conv=>lhs;whnf);(first|done|exact rfl))));(kernel_rfl))|(apply d_len_own;(exact rfl);(focus((apply az;(conv=>lhs;whnf);(first|done|exact rfl))));(focus((repeat(first|exact bw|refine bC _ ?_))));(kernel_rfl))|(apply d_len0;(exact rfl);(focus((apply az;(conv=>lhs;whnf);(first|done|exact rfl))));(kernel_rfl)))):p:=h
theorem zs5{p q:Prop}(h:q)(f:Wq q->p:=by(intro hW;(refine aL1 rfl rfl rfl zb2 ?_);exact hW.out)):p:=f ⟨h⟩
theorem Jk{p:Prop}(h:p:=by(apply eP;(exact rfl);(focus((apply az;(conv=>lhs;whnf);(first|done|exact rfl))));(focus((apply az;(conv=>lhs;whnf);(first|done|exact rfl))));(exact rfl))):p:=h
theorem oR{p q:Prop}(h:q)(f:Wq q->p:=by(intro hW;(refine aL1 rfl rfl rfl Jk ?_);exact hW.out)):p:=f ⟨h⟩
theorem zs22{p q:Prop}(h:q)(f:Wq q->p:=by(intro hW;(refine aL1 rfl rfl rfl xt ?_);exact hW.out)):p:=f ⟨h⟩
theorem zs184{p q:Prop}(h:q)(f:Wq q->p:=by(intro hW;(refine cF ?_;refine zs22 ?_;refine gL ?_;refine zs5 ?_;refine oR ?_;refine bc ?_);exact hW.out)):p:=f ⟨h⟩
theorem mB{p q:Prop}(h:q)(f:Wq q->p:=by(intro hW;(refine zs2 ?_;refine zs184 ?_);exact hW.out)):p:=f ⟨h⟩
theorem zs19{p q:Prop}(h:q)(f:Wq q->p:=by(intro hW;(refine aL1 rfl rfl rfl zb24 ?_);exact hW.out)):p:=f ⟨h⟩
theorem vY{p q:Prop}(h:q)(f:Wq q->p:=by(intro hW;(refine cF ?_;refine zs19 ?_;refine de ?_);exact hW.out)):p:=f ⟨h⟩
theorem zb67{p:Prop}(h:p:=by(apply ux;(exact rfl);(exact cj))):p:=h
theorem kp{p q:Prop}(h:q)(f:Wq q->p:=by(intro hW;(refine aL1 rfl rfl rfl zb67 ?_);exact hW.out)):p:=f ⟨h⟩
theorem yy{p q:Prop}(h:q)(f:Wq q->p:=by(intro hW;(refine gar ?_;refine kp ?_;refine bc ?_);exact hW.out)):p:=f ⟨h⟩
theorem fI{p q:Prop}(h:q)(f:Wq q->p:=by(intro hW;(refine yy ?_;refine zs2 ?_);exact hW.out)):p:=f ⟨h⟩
theorem oW{p q:Prop}(h:q)(f:Wq q->p:=by(intro hW;(refine zs2 ?_;refine fI ?_);exact hW.out)):p:=f ⟨h⟩
theorem zb11{p:Prop}(h:p:=by(first|(apply(Mz (c:=65536));(exact rfl);(focus((apply az;(conv=>lhs;whnf);(first|done|exact rfl))));(exact cj);(exact rfl);(exact rfl))|(apply d_remP;(exact rfl);(focus((apply az;(conv=>lhs;whnf);(first|done|exact rfl))));(exact cj);(omega))|(apply Fx;(exact rfl);(focus((apply az;(conv=>lhs;whnf);(first|done|exact rfl))));(exact cj);(focus(first|omega|decide))))):p:=h
theorem zb8{p:Prop}(h:p:=by(first|(apply(MC (c:=65536));(exact rfl);(focus((apply az;(conv=>lhs;whnf);(first|done|exact rfl))));(exact cj);(exact rfl);(exact rfl);(focus(apply sa;(try simp only[]);omega)))|(apply d_quoP;(exact rfl);(focus((apply az;(conv=>lhs;whnf);(first|done|exact rfl))));(exact cj);(omega))|(apply QE;(exact rfl);(focus((apply az;(conv=>lhs;whnf);(first|done|exact rfl))));(exact cj);(omega))|(apply Fy;(exact rfl);(focus((apply az;(conv=>lhs;whnf);(first|done|exact rfl))));(exact cj);(focus(first|omega|decide))))):p:=h
theorem zs35{p q:Prop}(h:q)(f:Wq q->p:=by(intro hW;((first|(apply aI 5;(focus kernel_rfl);(decide+kernel))|(apply aI 4;(focus kernel_rfl);(decide+kernel))|(apply aI 3;(focus kernel_rfl);(decide+kernel))|(apply aI 2;(focus kernel_rfl);(decide+kernel))|(apply aI 1;(focus kernel_rfl);(decide+kernel)));simp only[eH,dK,fj,dA]);exact hW.out)):p:=f ⟨h⟩
theorem lX{p q:Prop}(h:q)(f:Wq q->p:=by(intro hW;((first|refine fR rfl rfl rfl aj ry aj aj ?_|((try refine bn ?_);refine aL1 rfl rfl rfl ry ?_)));exact hW.out)):p:=f ⟨h⟩
theorem zs28{p q:Prop}(h:q)(f:Wq q->p:=by(intro hW;((first|refine fR rfl rfl rfl aj zb4 aj aj ?_|((try refine bn ?_);refine aL1 rfl rfl rfl zb4 ?_)));exact hW.out)):p:=f ⟨h⟩
theorem gG{p q:Prop}(h:q)(f:Wq q->p:=by(intro hW;((first|refine fR rfl rfl rfl aj zb1 aj aj ?_|((try refine bn ?_);refine aL1 rfl rfl rfl zb1 ?_)));exact hW.out)):p:=f ⟨h⟩
theorem lh{p q:Prop}(h:q)(f:Wq q->p:=by(intro hW;(refine lX ?_;refine zs28 ?_;refine gG ?_);exact hW.out)):p:=f ⟨h⟩
theorem zs3{p q:Prop}(h:q)(f:Wq q->p:=by(intro hW;(refine aL1 rfl rfl rfl (by(apply ux;(exact rfl);(exact sG))) ?_);exact hW.out)):p:=f ⟨h⟩
theorem vZ{p q:Prop}(h:q)(f:Wq q->p:=by(intro hW;(refine gar ?_;refine zs3 ?_;refine bc ?_);exact hW.out)):p:=f ⟨h⟩
theorem jA{p q:Prop}(h:q)(f:Wq q->p:=by(intro hW;(refine vZ ?_;refine oW ?_);exact hW.out)):p:=f ⟨h⟩
theorem zb33{p:Prop}(h:p:=by(apply MF;(exact rfl);(focus((apply az;(conv=>lhs;whnf);(first|done|exact rfl))));(focus((apply az;(conv=>lhs;whnf);(first|done|exact rfl))));(kernel_rfl);(kernel_rfl))):p:=h
theorem td{p q:Prop}(h:q)(f:Wq q->p:=by(intro hW;(refine zs2 ?_;refine vZ ?_;refine zs2 ?_);exact hW.out)):p:=f ⟨h⟩
theorem dX{p q:Prop}(h:q)(f:Wq q->p:=by(intro hW;(refine bc ?_;refine zs2 ?_);exact hW.out)):p:=f ⟨h⟩
theorem cS{p q:Prop}(h:q)(f:Wq q->p:=by(intro hW;(refine zs6 ?_;refine dX ?_);exact hW.out)):p:=f ⟨h⟩
theorem Ay{p q:Prop}(h:q)(f:Wq q->p:=by(intro hW;((first|refine fR rfl rfl rfl aj xr aj aj ?_|((try refine bn ?_);refine aL1 rfl rfl rfl xr ?_)));exact hW.out)):p:=f ⟨h⟩
theorem zb7{p:Prop}(h:p:=by(first|(apply(FH (q':=.i64));(exact rfl);(focus((apply az;(conv=>lhs;whnf);(first|done|exact rfl))));(kernel_rfl);(kernel_rfl);(focus(first|(apply sa;(try simp only[]);omega)|exact rfl)))|(apply(FH (q':=.u32));(exact rfl);(focus((apply az;(conv=>lhs;whnf);(first|done|exact rfl))));(kernel_rfl);(kernel_rfl);(focus(first|(apply sa;(try simp only[]);omega)|exact rfl)))|(apply(FH (q':=.u64));(exact rfl);(focus((apply az;(conv=>lhs;whnf);(first|done|exact rfl))));(kernel_rfl);(kernel_rfl);(focus(first|(apply sa;(try simp only[]);omega)|exact rfl))))):p:=h
theorem zs29{p q:Prop}(h:q)(f:Wq q->p:=by(intro hW;((first|refine fR rfl rfl rfl aj zb7 aj aj ?_|((try refine bn ?_);refine aL1 rfl rfl rfl zb7 ?_)));exact hW.out)):p:=f ⟨h⟩
theorem bs{p q:Prop}(h:q)(f:Wq q->p:=by(intro hW;(refine zs2 ?_;refine gY ?_;refine zs2 ?_);exact hW.out)):p:=f ⟨h⟩
theorem zs51{p q:Prop}(h:q)(f:Wq q->p:=by(intro hW;(refine aL1 rfl rfl rfl zb8 ?_);exact hW.out)):p:=f ⟨h⟩
theorem yw{p q:Prop}(h:q)(f:Wq q->p:=by(intro hW;(refine cF ?_;refine zs51 ?_;refine de ?_);exact hW.out)):p:=f ⟨h⟩
theorem CW{p q:Prop}(h:q)(f:Wq q->p:=by(intro hW;(refine aL1 rfl rfl rfl (by(first|(apply QJ;(exact rfl);(focus((apply az;(conv=>lhs;whnf);(first|done|exact rfl))));(exact cj);(omega))|(apply eP;(exact rfl);(focus((apply az;(conv=>lhs;whnf);(first|done|exact rfl))));(exact cj);(exact rfl)))) ?_);exact hW.out)):p:=f ⟨h⟩
theorem fJ{p q:Prop}(h:q)(f:Wq q->p:=by(intro hW;(refine cF ?_;refine CW ?_;refine de ?_);exact hW.out)):p:=f ⟨h⟩
theorem Im{p q:Prop}(h:q)(f:Wq q->p:=by(intro hW;(refine aL1 rfl rfl rfl zb11 ?_);exact hW.out)):p:=f ⟨h⟩
theorem zs45{p q:Prop}(h:q)(f:Wq q->p:=by(intro hW;(refine aL1 rfl rfl rfl (by(apply nX;(exact rfl);(focus((apply az;(conv=>lhs;whnf);(first|done|exact rfl))));(focus((apply az;(conv=>lhs;whnf);(first|done|exact rfl))));(exact rfl);(exact rfl);(focus((first|exact M l aa h1 h2)));(exact rfl))) ?_);exact hW.out)):p:=f ⟨h⟩
theorem tu{p q:Prop}(h:q)(f:Wq q->p:=by(intro hW;(refine aL1 rfl rfl rfl (by(apply OT;(exact rfl);(focus((apply az;(conv=>lhs;whnf);(first|done|exact rfl))));(exact rfl))) ?_);exact hW.out)):p:=f ⟨h⟩
theorem il{p q:Prop}(h:q)(f:Wq q->p:=by(intro hW;(refine gar ?_;refine tu ?_);exact hW.out)):p:=f ⟨h⟩
theorem zs188{p q:Prop}(h:q)(f:Wq q->p:=by(intro hW;(refine il ?_;refine kp ?_;refine bc ?_);exact hW.out)):p:=f ⟨h⟩
theorem vR{p q:Prop}(h:q)(f:Wq q->p:=by(intro hW;(refine zs2 ?_;refine zs188 ?_;refine zs2 ?_);exact hW.out)):p:=f ⟨h⟩
theorem mD{p q:Prop}(h:q)(f:Wq q->p:=by(intro hW;(refine cF ?_;refine zs5 ?_);exact hW.out)):p:=f ⟨h⟩
theorem aQ{p:Prop}(h:p:=by(repeat(first|exact drop_nil|apply ON|(apply Mw;(exact rfl))))):p:=h
theorem I5{p q:Prop}(h:q)(f:Wq q->p:=by(intro hW;(refine il ?_;refine zs3 ?_;refine bc ?_);exact hW.out)):p:=f ⟨h⟩
theorem tA{p:Prop}(h:p:=by(repeat(first|exact set_nil|apply RH|apply RJ|(apply NP;(exact rfl))))):p:=h
theorem tz{p:Prop}(h:p:=by first|exact Nat.zero_lt_one|omega|(simp;omega)):p:=h
theorem zs39{p q:Prop}(h:q)(f:Wq q->p:=by(intro hW;(((try refine bn ?_);(refine pI (i:=0) rfl rfl rfl cO cO aH aj tz aj dC aj ah tA ?_)));exact hW.out)):p:=f ⟨h⟩
theorem xq{p:Prop}(h:p:=by(apply nX;(exact rfl);(focus((apply az;(conv=>lhs;whnf);(first|done|exact rfl))));(focus((apply az;(conv=>lhs;whnf);(first|done|exact rfl))));(exact rfl);(exact rfl);(assumption);(exact rfl))):p:=h
theorem pK{p q:Prop}(h:q)(f:Wq q->p:=by(intro hW;((first|refine fR rfl rfl rfl aj xq aj aj ?_|((try refine bn ?_);refine aL1 rfl rfl rfl xq ?_)));exact hW.out)):p:=f ⟨h⟩
theorem CV{p q:Prop}(h:q)(f:Wq q->p:=by(intro hW;((first|refine fR rfl rfl rfl aj uM aj aj ?_|((try refine bn ?_);refine aL1 rfl rfl rfl uM ?_)));exact hW.out)):p:=f ⟨h⟩
theorem Ir{p q:Prop}(h:q)(f:Wq q->p:=by(intro hW;(refine gG ?_;refine CV ?_;refine pK ?_;refine zs39 ?_;refine kH ?_;refine zs2 ?_);exact hW.out)):p:=f ⟨h⟩
theorem Cp{p q:Prop}(h:q)(f:Wq q->p:=by(intro hW;(refine cF ?_;refine jx ?_;refine de ?_);exact hW.out)):p:=f ⟨h⟩
theorem Jj{p:Prop}(h:p:=by(apply OO;(exact rfl);(focus((apply az;(conv=>lhs;whnf);(first|done|exact rfl)))))):p:=h
theorem nC{p:Prop}(h:p:=by(first|(apply az;(conv=>lhs;whnf);(first|done|exact rfl))|with_reducible exact cj|with_reducible exact lu|with_reducible exact sG|exact op_zero)):p:=h
theorem gZ{p q:Prop}(h:q)(f:Wq q->p:=by(intro hW;((refine pI (i:=0) rfl rfl rfl cO cO aH aj tz aj dC aj ah tA ?_));exact hW.out)):p:=f ⟨h⟩
theorem jz{p q:Prop}(h:q)(f:Wq q->p:=by(intro hW;(refine gZ ?_;refine dX ?_);exact hW.out)):p:=f ⟨h⟩
theorem tf{p q:Prop}(h:q)(f:Wq q->p:=by(intro hW;((first|refine fR rfl rfl rfl aj C4 aj aj ?_|((try refine bn ?_);refine aL1 rfl rfl rfl C4 ?_)));exact hW.out)):p:=f ⟨h⟩
theorem uJ{p q:Prop}(h:q)(f:Wq q->p:=by(intro hW;(refine aL1 rfl rfl rfl zb22 ?_);exact hW.out)):p:=f ⟨h⟩
theorem aR{p:Prop}(h:p:=by(repeat(first|exact NM|(apply KY;(exact rfl))|apply NN|apply RD))):p:=h
theorem zs40{p q:Prop}(h:q)(f:Wq q->p:=by(intro hW;((first|(apply aI 6;(focus kernel_rfl);(decide+kernel))|(apply aI 5;(focus kernel_rfl);(decide+kernel))|(apply aI 4;(focus kernel_rfl);(decide+kernel))|(apply aI 3;(focus kernel_rfl);(decide+kernel))|(apply aI 2;(focus kernel_rfl);(decide+kernel))|(apply aI 1;(focus kernel_rfl);(decide+kernel)));simp only[eH,dK,fj,dA]);exact hW.out)):p:=f ⟨h⟩
theorem iZ{p q:Prop}(h:q)(f:Wq q->p:=by(intro hW;(refine cF ?_;refine zs7 ?_;refine bc ?_);exact hW.out)):p:=f ⟨h⟩
theorem pL{p q:Prop}(h:q)(f:Wq q->p:=by(intro hW;((first|(refine aLs rfl rfl rfl rfl ?_ ?_;(focus(apply br;(conv=>lhs;whnf);(first|done|exact rfl|(apply bq;(first|(apply aB;omega)|(apply aF;omega)|assumption|(simp;done)))))))|refine aLw rfl rfl rfl rfl cE zb1 ?_));exact hW.out)):p:=f ⟨h⟩
theorem yx{p q:Prop}(h:q)(f:Wq q->p:=by(intro hW;(refine il ?_;refine Ip ?_;refine bc ?_);exact hW.out)):p:=f ⟨h⟩
end
section
open Go.RowKit Go.BigFrame
attribute [local go_sem ↓] Go.wp_at_zero Go.wp_at_succ
def pk:List Nat->List Nat
 |[]=>[]
 |[x]=>[x]
 |x::y::l=>(x+y*65536)::pk l
theorem Qp:∀l:List Nat,Dg.vl B32 (pk l)=Dg.vl B16 l
 |[]=>rfl
 |[x]=>rfl
 |x::y::l=>by
  simp only[pk,Dg.fN,Qp l,B16,B32];omega
theorem Lo:∀{l:List Nat},Dg.dig B16 l->Dg.dig B32 (pk l)
 |[],_=>fun x h=>by cases h
 |[x],h=>fun y hy=>by
  simp only[pk,cr]at hy;have:=h x bw;subst hy;show y<4294967296;have:y<65536:=this;omega
 |x::y::l,h=>by
  have h1:=Dg.mj h;have h2:=Dg.mj h1.2;have h3:=Lo h2.2;have h4:x<65536:=h1.1;have h5:y<65536:=h2.1;intro z hz;simp only[pk,bP]at hz;rcases hz with rfl|hz
  ·show x+y*65536<4294967296;omega
  ·exact h3 z hz
theorem Qq:∀{l:List Nat},l≠[]->pk l≠[]
 |[],h=>absurd rfl h
 |[x],_=>by simp[pk]
 |x::y::l,_=>by simp[pk]
theorem GW:∀{l:List Nat},l.getLast?≠some 0->(pk l).getLast?≠some 0
 |[],h=>h
 |[x],h=>h
 |x::y::[],h=>by
  simp[pk]at h⊢;omega
 |x::y::z::l,h=>by
  have h1:(z::l).getLast?≠some 0:=by simpa using h
  have h2:=GW h1;have h3:pk (z::l)≠[]:=Qq aV;simp only[pk];rw[List.getLast?_cons];obtain⟨u,hu⟩:∃u,(pk (z::l)).getLast?=some u:=by
   cases h4:(pk (z::l)).getLast? with
   |none=>rw[List.getLast?_eq_none_iff]at h4;exact absurd h4 h3
   |some u=>exact⟨u,rfl⟩
  rw[hu]at h2⊢;simpa using h2
theorem pk_nf{l:List Nat}(h:Dg.NF B16 l):Dg.NF B32 (pk l):=⟨Lo h.dg,GW h.nz⟩
theorem GV:∀{l:List Nat} {k x:Nat},l[2*k]?=some x->pk (l.take (2*k+2))=pk (l.take (2*k))++[x+l.getD (2*k+1) 0*65536]
 |[],k,x,h=>by simp at h
 |[y],0,x,h=>by
  simp at h;subst h;simp[pk]
 |[y],k+1,x,h=>by simp at h
 |y::z::l,0,x,h=>by
  simp at h;subst h;simp[pk]
 |y::z::l,k+1,x,h=>by
  have e:2*(k+1)=2*k+1+1:=by omega
  rw[e]at h⊢;have h1:l[2*k]?=some x:=by simpa using h
  have h2:=GV h1;simp only[eH,pk,yX,tG,h2]
theorem N5{l:List Nat}{k x:Nat}(hk:k%2=0)(h:l[k]?=some x):pk (l.take (k+2))=pk (l.take k)++[x+l.getD (k+1) 0*65536]:=by
 obtain⟨j,rfl⟩:∃j,k=2*j:=⟨k/2,by omega⟩;exact GV h
theorem TE{l:List Nat}{k:Nat}(h:l.length<=k):pk (l.take k)=pk l:=by rw[cw h]
theorem Ln:∀l:List Nat,(pk l).length<=l.length
 |[]=>af _
 |[x]=>af _
 |x::y::l=>by have:=Ln l;simp[pk];omega
theorem gU.KZ{w:World}{base:Nat}{v:Value}{l:List Nat}(h:gU w base v l){g o:Nat}(u:Value)(hg:g<base):gU (w.setCell ⟨g,o,none⟩ u) base v l:=by
 refine World.ownsRow.kept h (kV w g o u) ?_
 cases e:v.ownBlock with
 |none=>exact .inl rfl
 |some k=>
  right;intro e2;have:=(World.ownsRow.lt h k e).1;cases e2;omega
set_option maxRecDepth 10000 in
set_option maxHeartbeats 8000000 in
theorem Mf(s:Bool)(l:List Nat)(v:Value)(hl:l.length<=2000000000000)(hd:Dg.dig B16 l)(w:World)(TR0:∀W,Below w.heap.size w W->Calls Tryz.prog 188 #[v] W fun e w'=>HRes w' e (Dg.vl B16 l)/\Below W.heap.size W w'):
  Calls Tryz.prog 150 #[.bool s,v] w fun e w'=>(∃x,e= .returned (.agg #[.bool x.s,.slice x.a x.n x.cap])/\IZ w' x (Dg.iv s (Dg.vl B16 l)))/\Below w.heap.size w w':=by
 have TR:=ae TR0;clear TR0;have hN:=Dg.cg hd;have LB:Hid (∀m:List Nat,Dg.NF B16 m->Dg.vl B16 m=Dg.vl B16 l->m.length<=2000000000000):=fun m h1 h2=>by
  rcases Nat.lt_or_ge l.length m.length with h3|h3
  ·obtain⟨k,hk⟩:∃k,m.length=k+1:=⟨m.length-1,by omega⟩;have h4:=Dg.mZ hk h1;have h5:=Dg.cg hd;have h6:B16^l.length<=B16^k:=cv aq aa;omega
  ·omega
 generalize hNe:Dg.vl B16 l=N at*;clear hNe hN hd;obtain⟨d,hd⟩:∃d,d=decide (N≠0):=⟨_,rfl⟩;have fin:∀(c:Bool),(c=(s&&d))->∀(m:List Nat) (w':World) (v1:Value) (base:Nat),Dg.NF B16 m->Dg.vl B16 m=N->gU w' base v1 (pk m)->∃x:IV,v1= .slice x.a x.n x.cap/\x.s=c/\IZ w' x (Dg.iv s N):=fun c hc m w' v1 base h1 h2 h3=>by
  obtain⟨a,cap,e,h4,_,h5,_⟩:=h3.ws;refine⟨⟨c,a,(pk m).length,cap⟩,e,rfl,pk m,⟨rfl,h4,h5,pk_nf h1⟩,fun e=>?_,?_⟩
  ·have:m=[]:=Decidable.byContradiction fun hm=>Qq hm e;subst this;have:N=0:=h2.symm;subst this;simp[hc,hd]
  ·rw[Qp,h2];by_cases h0:N=0
   ·subst h0;rw[Dg.sL,Dg.sL]
   ·simp[hc,hd,h0]
 have FIN:=ae fin;clear fin;have key:∀m,Dg.NF B16 m->Dg.vl B16 m=N->decide ((0:Int)<(m.length:Int))=d:=fun m h1 h2=>by
  have h3:=Dg.wE h1 aq;rw[hd,decide_eq_decide,<-h2];constructor
  ·intro h4 h5;rw[h3.1 h5]at h4;simp at h4
  ·intro h4;have:m≠[]:=fun e=>h4 (h3.2 e);have:=iI.2 this;omega
 have KEY:=ae key;clear key hd;obtain⟨c0,hc0⟩:∃c0,c0=(s&&d):=⟨_,rfl⟩;have W1b:∀(W:World) (b x:Nat),b=W.heap.size->WS (W.alloc (.cells #[.int .u32 (x:Int)] 138)) (some ⟨b,0,none⟩) [x]:=fun W b x hb=>Gx W _ b x hb;have WB:=ae W1b;have FIN1:=ae (FIN.out c0 hc0);clear W1b FIN;cases s<;>cases d;all_goals
  simp only[Bool.and_false,Bool.and_true]at hc0;have HC0:=ae hc0;clear hc0
  go_enter Tryz.func150,Tryz.ntmps150
  go_wp2_with (first|(go_at_call 188;(with_reducible refine(TR.out _ ?_).mono ?_);(exact bel);rintro e w1 ⟨⟨v1,m,rfl,h1,h2,h3⟩,hb1⟩;obtain⟨a1,c1,rfl,hle1,hv1⟩:=h1.parts;have hdf:=KEY.out m h2 h3;have HM:=ae (And.intro h2 h3);have hml:=LB.out m h2 h3;clear h1 h2 h3;obtain⟨g1,rfl⟩:=mob hb1;clear hb1;have HS1:=ae hv1;clear hv1;(obtain⟨q,hq⟩:∃q,q=m.length:=(⟨_,rfl⟩));have HQ:=ae hq;rw[<-hq]at hdf hml⊢;clear hq hle1))
  have hb5:∃b5,b5=w.heap.size+1+g1.2.size:=⟨_,rfl⟩;obtain⟨b5,hb5⟩:=hb5;have HB5:=ae hb5;have hqb:(q:Int)<=2000000000000:=by omega
  rw[<-hb5];clear hb5
  go_loopw [6] (fun i wr=>∃(k:Nat) (v:Value),k<=q+1/\i= .int .i64 ((k:Int))/\Hid (k%2=0)/\wr.cell? ⟨b5,0,none⟩=some (.bool c0)/\wr.cell? ⟨b5,1,none⟩=some v/\wr.frozen? ⟨b5,1,none⟩=false/\b5<wr.heap.size/\Hid (gU wr (b5+1) v (pk (m.take k))/\Below b5 (more (w.alloc (.cells #[.bool false,.slice none 0 0] 62)) g1) wr)) (fun i _=>q+1-(intOf i).toNat)
  case atStart=>
   refine⟨0,.slice none 0 0,by omega,rfl,rfl,?_,?_,?_,?_,gU.nil _ _,?_⟩
   ·rw[HB5.out,HC0.out];go_simp<;>(simp at hdf;omega)
   ·rw[HB5.out];go_simp
   ·rw[HB5.out];go_simp
   ·rw[HB5.out];simp
   ·rw[HB5.out];refine Below.alloc (Below.refl _ _) ?_ _;simp
  case round=>
   obtain⟨k,v,hk,rfl,HK,k0,k1,kf,kl,HR⟩:=hrel;by_cases hkq:k<q
   ·have hkq2:(k:Int)<(q:Int):=by omega
    obtain⟨x,hx⟩:∃x,m[k]?=some x:=⟨_,aZ (by rw[<-HQ.out];exact hkq)⟩;have hxb:x<65536:=HM.out.1.dg x (bG hx);rcases HS1.out.below (HR.out.2) (by rw[HB5.out];simp)with h0|⟨g,ha,hg,hcc⟩
    ·rw[h0]at hx;simp at hx
    have c2:=hcc k x hx;subst ha;have PK0:=N5 HK.out hx;obtain⟨z,hz⟩:∃z,z=x+m.getD (k+1) 0*65536:=⟨_,rfl⟩;rw[<-hz]at PK0;have HZ:=ae hz;have PK:=ae PK0;clear hz PK0;have hlen:(pk (m.take k)).length+[z].length<=4000000000000:=by
     have:=Ln (m.take k);rw[bf]at this;simp;omega
    by_cases hkq3:k+1<q
    ·have hkq4:(k:Int)+1<(q:Int):=by omega
     obtain⟨y,hy⟩:∃y,m[k+1]?=some y:=⟨_,aZ (by rw[<-HQ.out];exact hkq3)⟩;have hyb:y<65536:=HM.out.1.dg y (bG hy);have c3:=hcc (k+1) y hy;have hyd:m.getD (k+1) 0=y:=by rw[ay,hy];rfl
     have HY:Hid (∀(W:World) (b:Nat),b=W.heap.size->WS (W.alloc (.cells #[.int .u32 ((x:Int)+(y:Int)*65536)] 138)) (some ⟨b,0,none⟩) [z]):=fun W b hb=>by
      rw[show(x:Int)+(y:Int)*65536=(z:Int) by have:=HZ.out;rw[hyd]at this;omega];exact WB.out W b _ hb
     have hx2:(x:Int)<65536:=by omega
     have hy2:(y:Int)<65536:=by omega
     clear hcc hx hy hyd hxb hyb
     go_wp2_with (first|(at_builtin;go_must (refine kZ (w0:=wr) (base:=b5+1) (v:=v) (l:=pk (m.take k)) ?_ ?_ ?_ 60 60 Tryz.underlying60 Tryz.underlying60 [z] wr.heap.size 1 1 rfl ?_ hlen rfl (.tmp 43) (.tmp 45) rfl (by rfl) (by rfl) ?_);(exact World.ownsRow.alloc HR.out.1 _);(exact bel);(focus(simp;omega));(exact HY.out _ _ aV);intro v4 w4 hown4 hB4 hz4;obtain⟨a4,cap4,hv4,_⟩:=hown4.ws;subst hv4;have HO4:=ae (And.intro hown4 hB4);have k4:=(hB4.cell (p:=⟨b5,0,none⟩) (iJ _)).trans k0;have k5:=(hB4.cell (p:=⟨b5,1,none⟩) (iJ _)).trans k1;have k6:=(hB4.frozen (p:=⟨b5,1,none⟩) (iJ _)).trans kf;clear hown4 hB4))
     go_roundw
     case rel=>
      refine⟨k+2,.slice a4 ((pk (m.take k)).length+1) cap4,by omega,by go_num,by have:=HK.out;show(k+2)%2=0;omega,?_,?_,?_,?_,?_,?_⟩
      ·rw[eO _ _ _ _ _ aa];exact k4
      ·exact fP _ _ _ _ _ k5
      ·rw[World.frozen?_setCell];exact k6
      ·simp;omega
      ·have h1:=HO4.out.1;rw[show(pk (m.take k)++[z]).length=(pk (m.take k)).length+1 by simp]at h1;rw[<-PK.out]at h1;exact h1.KZ _ (iJ _)
      ·exact Below.setCell (Below.trans HR.out.2 (HO4.out.2.mono (jS _))) (af _) _
     case measure=>simp[intOf];omega
    ·have hkq4:¬(k:Int)+1<(q:Int):=by omega
     have hyd:m.getD (k+1) 0=0:=by rw[ay,gy (by rw[<-HQ.out];omega)];rfl
     have HY:Hid (∀(W:World) (b:Nat),b=W.heap.size->WS (W.alloc (.cells #[.int .u32 (x:Int)] 138)) (some ⟨b,0,none⟩) [z]):=fun W b hb=>by
      rw[show(x:Int)=(z:Int) by have:=HZ.out;rw[hyd]at this;omega];exact WB.out W b z hb
     have hx2:(x:Int)<65536:=by omega
     clear hcc hx hyd hxb
     go_wp2_with (first|(at_builtin;go_must (refine kZ (w0:=wr) (base:=b5+1) (v:=v) (l:=pk (m.take k)) ?_ ?_ ?_ 60 60 Tryz.underlying60 Tryz.underlying60 [z] wr.heap.size 1 1 rfl ?_ hlen rfl (.tmp 43) (.tmp 45) rfl (by rfl) (by rfl) ?_);(exact World.ownsRow.alloc HR.out.1 _);(exact bel);(focus(simp;omega));(exact HY.out _ _ aV);intro v4 w4 hown4 hB4 hz4;obtain⟨a4,cap4,hv4,_⟩:=hown4.ws;subst hv4;have HO4:=ae (And.intro hown4 hB4);have k4:=(hB4.cell (p:=⟨b5,0,none⟩) (iJ _)).trans k0;have k5:=(hB4.cell (p:=⟨b5,1,none⟩) (iJ _)).trans k1;have k6:=(hB4.frozen (p:=⟨b5,1,none⟩) (iJ _)).trans kf;clear hown4 hB4))
     go_roundw
     case rel=>
      refine⟨k+2,.slice a4 ((pk (m.take k)).length+1) cap4,by omega,by go_num,by have:=HK.out;show(k+2)%2=0;omega,?_,?_,?_,?_,?_,?_⟩
      ·rw[eO _ _ _ _ _ aa];exact k4
      ·exact fP _ _ _ _ _ k5
      ·rw[World.frozen?_setCell];exact k6
      ·simp;omega
      ·have h1:=HO4.out.1;rw[show(pk (m.take k)++[z]).length=(pk (m.take k)).length+1 by simp]at h1;rw[<-PK.out]at h1;exact h1.KZ _ (iJ _)
      ·exact Below.setCell (Below.trans HR.out.2 (HO4.out.2.mono (jS _))) (af _) _
     case measure=>simp[intOf];omega
   ·have hkq2:¬(k:Int)<(q:Int):=by omega
    have hfin:=FIN1.out m wr v (b5+1) HM.out.1 HM.out.2 (by have h1:=HR.out.1;rw[TE (by rw[<-HQ.out];omega)]at h1;exact h1);obtain⟨y,rfl,rfl,hy⟩:=hfin;have HY:=ae hy;have r0:wr.cell? ⟨w.heap.size,0,none⟩=some (.bool false):=(HR.out.2.cell (p:=⟨w.heap.size,0,none⟩) Jd).trans (by go_simp);have r1:wr.cell? ⟨w.heap.size,1,none⟩=some (.slice none 0 0):=(HR.out.2.cell (p:=⟨w.heap.size,1,none⟩) Jd).trans (by go_simp);have r2:wr.frozen? ⟨w.heap.size,0,none⟩=false:=(HR.out.2.frozen (p:=⟨w.heap.size,0,none⟩) Jd).trans (by go_simp);have r3:wr.frozen? ⟨w.heap.size,1,none⟩=false:=(HR.out.2.frozen (p:=⟨w.heap.size,1,none⟩) Jd).trans (by go_simp);have r4:w.heap.size<wr.heap.size:=by have:=kl;have:=HB5.out;omega
    have hB6:Below w.heap.size w wr:=Below.trans (b:=more (w.alloc (.cells #[.bool false,.slice none 0 0] 62)) g1) au (HR.out.2.mono (by rw[HB5.out];omega));have HB6:=ae hB6;clear hy hB6
    go_wp2_with fail
    refine bodyPost_ret (v:=.agg #[.bool y.s,.slice y.a y.n y.cap]) (by simp[results,Tryz.results150,go_sem,r0,r1]) rfl ⟨⟨y,rfl,?_⟩,?_⟩
    ·refine(HY.out.off (Off.set wr w.heap.size 0 _) r0).off (Off.set _ w.heap.size 1 _) (c:=y.s) ?_;exact fP _ _ _ _ _ r0
    ·have hB:=HB6.out;exact bel
end
section
open Go.RowKit
namespace DW
theorem rf{l:List Nat}{k:Nat}(h:k<l.length):l[k]?=some (l.getD k 0):=by rw[ay,aZ h];rfl
theorem hd_of{l:List Nat}(h:Dg.dig 65536 l):l.take (tl l)=hd (Dg.vl 65536 l):=by
 obtain⟨h1,h2⟩:=Ro h;have:=Dg.Fv aq h1;rw[h2]at this;exact this.symm
abbrev trimQ(N:Nat)(e:Exit)(s:S):Prop:=(e= .normal\/e= .ret)/\s.gt 2= .own 18/\(18,(⟨3,1,(hd N).map hN⟩:Ow))∈s.ow
set_option maxRecDepth 20000 in
set_option maxHeartbeats 1000000 in
theorem KI(X0:Nat->Prop)(l:List Nat)(hl:l.length<=900000000)(hdg:Dg.dig 65536 l):∃c,Tryz.f188.body=some c/\aW Tryz.prog X0 Tryz.f188.ntmps c (trimQ (Dg.vl 65536 l)) ⟨aK 0 [dN l],[]⟩:=by
 refine⟨_,rfl,?_⟩;have HT:=hd_of hdg;simp only[aK];refine td ?_;refine mD ?_;refine cS ?_
 (refine av (aE (sl':=[(0,dN l),(3,zI l.length)]) (ow':=[]) aO aS) ?_)
 refine bB (fun k s=>tl l<=k/\k<=l.length/\s=⟨[(0,dN l),(3,zI k)],[]⟩) (m:=l.length) ⟨kD l,af _,rfl⟩ fun k s hs=>?_;obtain⟨hk1,hk2,rfl⟩:=hs;have fin':∀(K:Exit->S->Prop),k=tl l->([]++(l.map hN).take k)=(hd (Dg.vl 65536 l)).map hN:=fun _ e=>by rw[fM,<-List.map_take,e,HT]
 by_cases hk0:k=0
 ·subst hk0;have ht:tl l=0:=by omega
  refine zs2 ?_;refine cF ?_;refine zs7 ?_;refine fS ?_;refine zs8 ?_;refine zs9 ?_;refine zs10 ?_;refine pL ?_;refine Az ?_;refine nB ?_;refine dX ?_;refine rp nC (by rfl) ?_;refine zs2 ?_;refine PO ?_;refine zs2 ?_;exact⟨.inr rfl,by rfl,by rw[<-fin' (fun _ _=>True) ht.symm];exact bw⟩
 ·have hx:=rf (l:=l) (k:=k-1) aa;obtain⟨x,hxd⟩:∃x,x=l.getD (k-1) 0:=⟨_,rfl⟩;rw[<-hxd]at hx;have hcast:(k:Int)-1=((k-1:Nat):Int):=by omega
  by_cases hx0:x=0
  ·have hlt : tl l < k := by
    rcases sf l with h|h
    ·omega
    ·apply Nat.lt_of_le_of_ne hk1;intro e;rw[e]at h;exact h (by rw[<-hxd,hx0])
   refine zs2 ?_;refine PN ?_;refine zs2 ?_;refine qw nC (aB aa) ?_;refine zs2 ?_;refine vY ?_;simp only[nx,inB];exact⟨k-1,_,by omega,(aE (sl':=[(0,dN l),(3,zI (k-1:Nat))]) (ow':=[]) aO aS),by omega,by omega,rfl⟩
  ·have ht : k = tl l := by
    apply wm _ hk1;apply dG;intro h;exact hx0 (by rw[hxd];exact pD l (k-1) aa)
   refine zs2 ?_;refine PN ?_;refine zs2 ?_;refine rp nC (aF aa) ?_;refine zs2 ?_;refine PO ?_;refine zs2 ?_;exact⟨.inr rfl,by rfl,by rw[<-fin' (fun _ _=>True) ht];exact bw⟩
theorem KJ(l:List Nat)(hl:l.length<=900000000)(hdg:Dg.dig 65536 l):Fn Tryz.prog 188 [dN l] (dN (hd (Dg.vl 65536 l))):=by
 refine bh Tryz.func188 ah rfl rfl rfl fun X0=>?_;obtain⟨c,h1,h2⟩:=KI X0 l hl hdg;cases h1;refine h2.mono fun e s ⟨h3,h4,h5⟩=>?_;have:=Ss (P:=Tryz.prog) (X0:=X0) (n:=Tryz.f188.ntmps) (fn:=Tryz.f188) (s:=s) (t:=2) rfl h4 h5;rcases h3 with rfl|rfl<;>exact this
theorem Md(l:List Nat)(hl:l.length<=900000000)(hdg:Dg.dig 65536 l)(X:Nat->Prop)(w:World)(v:Value)(hX:XW X w)(hv:AR X w (dN l) v):Calls Tryz.prog 188 #[v] w fun e w'=>HRes w' e (Dg.vl 65536 l)/\Below w.heap.size w w':=by
 obtain⟨c,h1,h2⟩:=KI X l hl hdg;refine MK (ds:=[dN l]) Tryz.func188 h1 rfl rfl hX (by simp only[ATp];exact⟨v,[],rfl,hv,rfl⟩) _ h2 fun e s f a w' ⟨h3,h4,h5⟩ hh=>⟨h3,a.tmps.getD 2 undef,results_tmp rfl a.tmps _ _,⟨_,hd (Dg.vl 65536 l),rfl,?_,(Dg.du aq _).1,(Dg.du aq _).2⟩,hh.bl.low⟩;have h6:=hh.sl 2;rw[h4]at h6;simp only[SR]at h6;rw[h6];obtain⟨_,xs,⟨k1,k2⟩,k3⟩:=hh.ow _ h5;simp only[bI]at k1 k2 k3;rcases k2 with⟨k4,k5⟩|⟨g,cap,cur,k4,_,hgg,hle,hm,hcs,htk⟩
 ·exact .inl ⟨k4,gP k5⟩
 ·refine .inr ⟨g,cap,k4,hle,hm,(iu.1 hgg).1,fun k x hk=>?_⟩;have hd':((hd (Dg.vl 65536 l)).map hN)[k]?=some (hN x):=by rw[bO,hk];rfl
  obtain⟨u,e1,_,_,e4⟩:=Els.at k3 hd';simp only[AR]at e1;have h7:=e4 0 u (by rw[jt (by rw[e1.1];rfl)];rfl);rw[eW,bZ]at h7;rw[cell_of_row w' g _ cur _ (0,0) hgg];have hlt:=(cD.1 h7).1;rw[<-htk,bf]at hlt;rw[<-htk,ja aa,eA]at h7;rw[h7,e1.1]
theorem EF(s:Bool)(l:List Nat)(hl:l.length<=900000000)(hdg:Dg.dig 65536 l):Fn Tryz.prog 150 [.sc (.bool s),dN l] (.nm (Dg.iv s (Dg.vl 65536 l))):=by
 refine⟨Go.Proofs.enters_of Tryz.func150 ah rfl,fun X w vs hX hv=>?_⟩;simp only[ATp]at hv;obtain⟨v1,r1,e,h1,v2,r2,e2,h2,e3⟩:=hv;simp only[AR]at h1;rw[e2,e3,h1.1]at e;have:vs= #[.bool s,v2]:=cU.1 e;subst this;exact(Mf s l v2 aa hdg w fun W hW=>Md l hl hdg X W v2 (hX.grow hW) (h2.grow hW)).mono fun e w' ⟨⟨x,k1,k2⟩,k3⟩=>⟨_,k1,by simp only[AR];exact⟨x,rfl,k2⟩,k3⟩
set_option maxRecDepth 20000 in
set_option maxHeartbeats 1000000 in
theorem OU(z:Int)(hz:(wds z.natAbs).length<=400000000):Fn Tryz.prog 151 [.nm z] (dN (hd z.natAbs)):=by
 refine bh Tryz.func151 ah rfl rfl rfl fun X0=>?_;simp only[aK];have hv:Dg.vl B32 (wds z.natAbs)=z.natAbs:=(Dg.du aq _).2;have hdu:Dg.dig B32 (wds z.natAbs):=(Dg.du aq _).1.dg;have hvl:Dg.vl 65536 (hw (wds z.natAbs))=z.natAbs:=by rw[Qu,hv]
 have TRIM:=KJ (hw (wds z.natAbs)) (by rw[EO];omega) (Mb hdu);rw[hvl]at TRIM;refine zs2 ?_;refine I5 ?_;refine zs2 ?_;refine jA ?_;refine av (fG (t:=3) (k:=3) (T:=3) (wd:=1) jf rfl rfl cG) ?_
 (refine av (aE (sl':=[(1,.pt (.nm z)),(3,.own 3),(4,zI 0)]) (ow':=[(3,⟨3,1,[]⟩)]) aO aS) ?_)
 refine bB (fun r s=>∃k,k<=(wds z.natAbs).length/\r=(wds z.natAbs).length-k/\s=⟨[(1,.pt (.nm z)),(3,.own 3),(4,zI k)],[(3,⟨3,1,(hw ((wds z.natAbs).take k)).map hN⟩)]⟩) (m:=(wds z.natAbs).length) ⟨0,by omega,rfl,by simp[hw]⟩ fun r s hs=>?_;obtain⟨k,hk,rfl,rfl⟩:=hs;by_cases hkl:k<(wds z.natAbs).length
 ·have hx:=rf hkl;obtain⟨x,hxd⟩:∃x,x=(wds z.natAbs).getD k 0:=⟨_,rfl⟩;rw[<-hxd]at hx;have hx32:x<4294967296:=hdu x (bG hx);have hql:x/65536<65536:=by omega
  refine mB ?_;refine zs2 ?_;refine qw nC (aB aa) ?_;refine zs2 ?_;((first|(apply aI 16;(focus kernel_rfl);(decide+kernel))|(apply aI 15;(focus kernel_rfl);(decide+kernel))|(apply aI 14;(focus kernel_rfl);(decide+kernel))|(apply aI 13;(focus kernel_rfl);(decide+kernel))|(apply aI 12;(focus kernel_rfl);(decide+kernel))|(apply aI 11;(focus kernel_rfl);(decide+kernel))|(apply aI 10;(focus kernel_rfl);(decide+kernel))|(apply aI 9;(focus kernel_rfl);(decide+kernel)));simp only[eH,dK,fj,dA]);refine lX ?_;refine CX ?_;refine gG ?_;refine lh ?_;(first|refine fR rfl rfl rfl aj zb11 aj aj ?_|((try refine bn ?_);refine aL1 rfl rfl rfl zb11 ?_));refine zs29 ?_;refine CX ?_;refine gG ?_;refine lh ?_;(first|refine fR rfl rfl rfl aj zb8 aj aj ?_|((try refine bn ?_);refine aL1 rfl rfl rfl zb8 ?_));refine zs29 ?_;(first|refine fR rfl rfl rfl aj zb33 aj aj ?_|((try refine bn ?_);refine aL1 rfl rfl rfl zb33 ?_));((try refine bn ?_);(refine oQ rfl rfl rfl rfl cO cO aH aj uO ah ah (by(simp only[bI,EO,bf,ir,ic];omega)) cG uL ?_));refine tf ?_;refine kH ?_;refine zs2 ?_;refine fJ ?_;simp only[nx,inB];refine⟨(wds z.natAbs).length-(k+1),_,by omega,(aE (sl':=[(1,.pt (.nm z)),(3,.own 3),(4,zI (k+1:Nat))]) (ow':=[(3,⟨3,1,(hw ((wds z.natAbs).take k)).map hN++[hN (x%65536),hN (x/65536)]⟩)]) aO aS),k+1,by omega,rfl,?_⟩;rw[Sn hx,eR];rfl
 ·have hke:k=(wds z.natAbs).length:=by omega
  subst hke;rw[gO];refine mB ?_;refine zs2 ?_;refine rp nC (aF aa) ?_;refine zs2 ?_;refine av (ao (k:=3) aH aR aQ) ?_;refine Cp ?_;refine zs2 ?_;exact⟨_,Sh.refl,.one (.tmp 2) _ rfl (.tmp 2 rfl)⟩
end DW
end
section
open Go.RowKit
namespace DW
theorem ju{n k:Nat}(h:n<65536^k):(hd n).length<=k:=by
 apply dG;intro hlt;obtain⟨j,hj⟩:∃j,(hd n).length=j+1:=⟨(hd n).length-1,by omega⟩;have h1:=Dg.mZ hj (Dg.du aq n).1;rw[show Dg.vl 65536 (hd n)=n from(Dg.du aq n).2]at h1;have h2:=cv (n:=65536) aa (show k<=j by omega);omega
theorem qZ(n:Nat):n<65536^(hd n).length:=by
 have h:=Dg.cg (Dg.du (b:=65536) aq n).1.dg;rw[(Dg.du aq n).2]at h;exact h
theorem kb{m n:Nat}(h:m<=n):(hd m).length<=(hd n).length:=ju (gK h (qZ n))
theorem Rh(n:Nat):(wds n).length<=(hd n).length:=by
 by_cases h0:(wds n).length=0
 ·omega
 ·obtain⟨j,hj⟩:∃j,(wds n).length=j+1:=⟨(wds n).length-1,by omega⟩;have h1:=Dg.mZ hj (Dg.du (b:=4294967296) aq n).1;rw[show Dg.vl 4294967296 (wds n)=n from(Dg.du aq n).2]at h1;have h2:(4294967296:Nat)^j=65536^(2*j):=by rw[uT]
  rw[h2]at h1;have h3:=gK h1 (qZ n);have h4:=(Nat.pow_lt_pow_iff_right (by omega:1<65536)).1 h3;omega
theorem jV(n:Nat):Dg.dig 65536 (hd n):=(Dg.du aq n).1.dg
theorem jJ(n:Nat):Dg.vl 65536 (hd n)=n:=(Dg.du aq n).2
theorem nj(n:Nat):(hd n).length=0↔n=0:=by
 rw[List.length_eq_zero_iff];exact Dg.SF aq
def Hf(z:Int):Prop:=(hd z.natAbs).length<=200000000
theorem Hf.neg{z:Int}(h:Hf z):Hf (-z):=by unfold Hf;rw[yW];exact h
theorem iD{z:Int}(h:Hf z):Fn Tryz.prog 151 [.nm z] (dN (hd z.natAbs)):=OU z (by have:=Rh z.natAbs;unfold Hf at h;omega)
theorem ze{l:List Nat}(hl:l.length<=900000000)(hdg:Dg.dig 65536 l){n:Nat}(hv:Dg.vl 65536 l=n):Fn Tryz.prog 188 [dN l] (dN (hd n)):=hv▸KJ l hl hdg
theorem lv{s:Bool}{n:Nat}(h:(hd n).length<=900000000){z:Int}(hz:Dg.iv s n=z):Fn Tryz.prog 150 [.sc (.bool s),dN (hd n)] (.nm z):=by
 have:=EF s (hd n) h (jV n);rw[jJ,hz]at this;exact this
theorem zT{z:Int}:Dg.iv (decide (z<0)) z.natAbs=z:=by unfold Dg.iv;split<;>rename_i h<;>simp at h<;>omega
theorem TX{z:Int}:Dg.iv (!decide (z<0)) z.natAbs= -z:=by unfold Dg.iv;split<;>rename_i h<;>simp at h<;>omega
set_option maxRecDepth 20000
set_option maxHeartbeats 1000000
theorem Er(z:Int)(hz:Hf z):Fn Tryz.prog 80 [.nm z] (.nm z):=by
 have D1:=iD hz;have M1:=lv (s:=decide (z<0)) (n:=z.natAbs) (by unfold Hf at hz;omega) zT;refine bh Tryz.func80 ah rfl rfl rfl fun X0=>?_;simp only[aK];refine zs2 ?_;refine yx ?_;refine zs2 ?_;refine zs35 ?_;refine Ay ?_;refine gG ?_;refine Ir ?_;exact⟨_,ao (k:=2) aH aR aQ,.one (.cell 2 62) _ rfl (.cell 2 _ _ rfl rfl ah ah)⟩
theorem JT(z:Int)(hz:Hf z):Fn Tryz.prog 116 [.nm z] (.nm (-z)):=by
 have D1:=iD hz;have M1:=lv (s:=!decide (z<0)) (n:=z.natAbs) (by unfold Hf at hz;omega) TX;refine bh Tryz.func116 ah rfl rfl rfl fun X0=>?_;simp only[aK];refine zs2 ?_;refine yx ?_;refine zs2 ?_;refine zs40 ?_;refine Ay ?_;refine gG ?_;(first|refine fR rfl rfl rfl aj Jj aj aj ?_|((try refine bn ?_);refine aL1 rfl rfl rfl Jj ?_));refine Ir ?_;exact⟨_,ao (k:=2) aH aR aQ,.one (.cell 2 62) _ rfl (.cell 2 _ _ rfl rfl ah ah)⟩
theorem sq(z:Int)(hz:Hf z):Fn Tryz.prog 106 [.nm z] (zI (sgn z)):=by
 have D1:=iD hz;refine bh Tryz.func106 ah rfl rfl rfl fun X0=>?_;simp only[aK];by_cases h0:z=0
 ·have hl:(hd z.natAbs).length=0:=(nj _).2 aa;refine vR ?_;refine mC ?_;refine zs5 ?_;refine uJ ?_;refine dX ?_;refine qw nC (aB aa) ?_;refine oW ?_;rw[show sgn z=0 by unfold sgn;rw[an h0]];exact⟨_,Sh.refl,.one (.tmp 2) _ rfl (.tmp 2 rfl)⟩
 ·have hl:(hd z.natAbs).length≠0:=fun e=>h0 (by have:=(nj _).1 e;omega);refine vR ?_;refine mC ?_;refine zs5 ?_;refine uJ ?_;refine dX ?_;refine rp nC (aF aa) ?_;refine zs2 ?_;refine I4 ?_;refine zs2 ?_;by_cases h1:z<0
  ·refine qw nC (aB aa) ?_;refine oW ?_;rw[show sgn z= -1 by unfold sgn;rw[ai aa,an h1]];exact⟨_,Sh.refl,.one (.tmp 2) _ rfl (.tmp 2 rfl)⟩
  ·refine rp nC (aF aa) ?_;refine oW ?_;rw[show sgn z=1 by unfold sgn;rw[ai aa,ai aa]];exact⟨_,Sh.refl,.one (.tmp 2) _ rfl (.tmp 2 rfl)⟩
end DW
end
section
open Go.RowKit
namespace DW
theorem Rj{b:Nat}(l:List Nat)(x:Nat):Dg.vl b (l++[x])=Dg.vl b l+b^l.length*x:=by rw[Dg.fH];simp[Dg.vl]
theorem qp{b:Nat}{l:List Nat}{x:Nat}(h:Dg.dig b l)(hx:x<b):Dg.dig b (l++[x]):=Dg.nq h fun y hy=>by
 rw[cr.1 hy];exact hx
theorem qa(l:List Nat)(x:Nat):(l++[x]).map hN=l.map hN++[hN x]:=by rw[eR];rfl
theorem Ls{l:List Nat}{m:Nat}(h:65536^l.length*m<65536^4)(hm:0<m):l.length<4:=by
 have h1:65536^l.length<=65536^l.length*m:=gf _ hm;exact(Nat.pow_lt_pow_iff_right (by omega:1<65536)).1 (gK h1 h)
theorem GZ(l:List Nat)(m:Nat):Dg.vl 65536 (l++[m%65536])+65536^(l++[m%65536]).length*(m/65536)=Dg.vl 65536 l+65536^l.length*m:=by
 rw[Rj,cI,jR,eD,cf,ou,<-iK];congr 2;omega
set_option maxRecDepth 20000
set_option maxHeartbeats 1000000
theorem Bb(z:Int)(hz: -9223372036854775808<=z/\z<=9223372036854775807):Fn Tryz.prog 81 [zI z] (.nm z):=by
 refine bh Tryz.func81 ah rfl rfl rfl fun X0=>?_;simp only[aK];have hb:z.natAbs<65536^4:=by rw[show(65536:Nat)^4=18446744073709551616 by rfl];omega
 refine zs2 ?_;refine gar ?_;refine Ip ?_;refine dX ?_;refine vZ ?_;refine zs2 ?_;refine cF ?_;refine zs7 ?_;refine cS ?_;refine av (fG (t:=3) (k:=3) (T:=3) (wd:=1) jf rfl rfl cG) ?_;by_cases hn:z<0
 ·have M : ∀ l : List Nat, Dg.vl 65536 l = z.natAbs -> Dg.dig 65536 l -> l.length <= 4 -> Fn Tryz.prog 150 [.sc (.bool (decide (z < 0))), dN l] (.nm z) := fun l h1 h2 h3 => by
   have:=EF (decide (z<0)) l aa h2;rwa[h1,zT]at this
  (refine av (aE (sl':=[(0,zI (-((z.natAbs:Nat):Int))),(2, .opt 2 0),(3, .own 3),(4, .sc (.bool (decide (z<0))))]) (ow':=[(3,⟨3,1,[]⟩),(2,⟨62,2,[.nm 0]⟩)]) aO aS) ?_)
  refine bB (fun r s=>∃l,Dg.dig 65536 l/\l.length<=4/\Dg.vl 65536 l+65536^l.length*r=z.natAbs/\r<=9223372036854775808/\s=⟨[(0,zI (-(r:Int))),(2, .opt 2 0),(3, .own 3),(4, .sc (.bool (decide (z<0))))],[(3,⟨3,1,l.map hN⟩),(2,⟨62,2,[.nm 0]⟩)]⟩) (m:=z.natAbs) ⟨[],fun _ h=>(by cases h),by simp,by simp[Dg.vl],by omega,rfl⟩ fun r s hs=>?_;obtain⟨l,h1,h2,h3,h4,rfl⟩:=hs;by_cases hr:r=0
  ·subst hr;refine mG ?_;refine av (ao (k:=3) aH aR aQ) ?_;refine ck ?_;refine zs45 ?_;refine jz ?_;exact⟨_,ao (k:=2) aH aR aQ, .one (.cell 2 62) _ rfl (.cell 2 _ _ rfl rfl ah ah)⟩
  ·have hl:=Ls (l:=l) (m:=r) aa aa;have e1:(-(r:Int)).tmod 65536= -((r%65536:Nat):Int):=by rw[Int.neg_tmod];rfl
   have e2:(-(r:Int)).tdiv 65536= -((r/65536:Nat):Int):=by rw[Int.neg_tdiv];rfl
   have h5:=GZ l r;have h6:=qp h1 (et r (by omega:0<65536));have h7:(l++[r%65536]).length=l.length+1:=by simp
   have h8:=qa l (r%65536);refine zs2 ?_;refine qG ?_;refine zs2 ?_;refine gY ?_;by_cases hd0:r%65536=0;all_goals
    refine zs2 ?_;refine cF ?_;refine Im ?_;refine cS ?_;refine iZ ?_;refine zs2 ?_
    (first|(refine gY ?_;(refine zs2 ?_);(refine gar ?_;refine zs4 ?_;(refine aL1 rfl rfl rfl (by(apply d_neg;(exact rfl);(focus((apply az;(conv=>lhs;whnf);(first|done|exact rfl))));(omega))) ?_);refine zs6 ?_;refine bc ?_);(refine zs2 ?_))|(refine ib ?_;(refine zs2 ?_)))
    (refine av (aE (sl':=[(0,zI (-(r:Int))),(2, .opt 2 0),(3, .own 3),(4, .sc (.bool (decide (z<0)))),(5,hN (r%65536))]) (ow':=[(3,⟨3,1,l.map hN⟩),(2,⟨62,2,[.nm 0]⟩)]) aO aS) ?_)
    refine zs2 ?_;refine vX ?_;refine zs2 ?_;refine yw ?_;refine zs2 ?_;simp only[nx,inB];exact⟨r/65536,_,by omega,(aE (sl':=[(0,zI (-((r/65536:Nat):Int))),(2, .opt 2 0),(3, .own 3),(4, .sc (.bool (decide (z<0))))]) (ow':=[(3,⟨3,1,l.map hN++[hN (r%65536)]⟩),(2,⟨62,2,[.nm 0]⟩)]) aO aS),l++[r%65536],h6,by omega,by omega,by omega,by rw[h8]⟩
 ·have M : ∀ l : List Nat, Dg.vl 65536 l = z.natAbs -> Dg.dig 65536 l -> l.length <= 4 -> Fn Tryz.prog 150 [.sc (.bool (decide (z < 0))), dN l] (.nm z) := fun l h1 h2 h3 => by
   have:=EF (decide (z<0)) l aa h2;rwa[h1,zT]at this
  (refine av (aE (sl':=[(0,zI ((z.natAbs:Nat):Int)),(2, .opt 2 0),(3, .own 3),(4, .sc (.bool (decide (z<0))))]) (ow':=[(3,⟨3,1,[]⟩),(2,⟨62,2,[.nm 0]⟩)]) aO aS) ?_)
  refine bB (fun r s=>∃l,Dg.dig 65536 l/\l.length<=4/\Dg.vl 65536 l+65536^l.length*r=z.natAbs/\r<=9223372036854775807/\s=⟨[(0,zI (r:Int)),(2, .opt 2 0),(3, .own 3),(4, .sc (.bool (decide (z<0))))],[(3,⟨3,1,l.map hN⟩),(2,⟨62,2,[.nm 0]⟩)]⟩) (m:=z.natAbs) ⟨[],fun _ h=>(by cases h),by simp,by simp[Dg.vl],by omega,rfl⟩ fun r s hs=>?_;obtain⟨l,h1,h2,h3,h4,rfl⟩:=hs;by_cases hr:r=0
  ·subst hr;refine mG ?_;refine av (ao (k:=3) aH aR aQ) ?_;refine ck ?_;refine zs45 ?_;refine jz ?_;exact⟨_,ao (k:=2) aH aR aQ, .one (.cell 2 62) _ rfl (.cell 2 _ _ rfl rfl ah ah)⟩
  ·have hl:=Ls (l:=l) (m:=r) aa aa;have h5:=GZ l r;have h6:=qp h1 (et r (by omega:0<65536));have h7:(l++[r%65536]).length=l.length+1:=by simp
   have h8:=qa l (r%65536);refine zs2 ?_;refine qG ?_;refine bs ?_;refine cF ?_;refine Im ?_;refine cS ?_;refine iZ ?_;refine bK ?_;refine vX ?_;refine zs2 ?_;refine yw ?_;refine zs2 ?_;simp only[nx,inB];exact⟨r/65536,_,by omega,(aE (sl':=[(0,hN (r/65536)),(2, .opt 2 0),(3, .own 3),(4, .sc (.bool (decide (z<0))))]) (ow':=[(3,⟨3,1,l.map hN++[hN (r%65536)]⟩),(2,⟨62,2,[.nm 0]⟩)]) aO aS),l++[r%65536],h6,by omega,by omega,by omega,by rw[h8]⟩
end DW
end
end Go.Proofs.YtcgjmdpcplhanaaGreat
