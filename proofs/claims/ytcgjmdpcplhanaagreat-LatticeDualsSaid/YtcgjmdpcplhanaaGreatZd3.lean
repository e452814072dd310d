/- Lemmas for the law: H3 E1 E2 E3 -/
import Derived.Test.YtcgjmdpcplhanaaGreatZd2
namespace Go.Proofs.YtcgjmdpcplhanaaGreat
section
theorem DU{p:Prop}(h:p:=by(apply uM;(exact rfl);(focus((apply aE;(conv=>lhs;whnf);(first|done|exact rfl)))))):p:=h
theorem zs6{p q:Prop}(h:q)(f:Wq q->p:=by(intro hW;(refine aL1 rfl rfl rfl DU ?_);exact hW.out)):p:=f ⟨h⟩
theorem cK{p q:Prop}(h:q)(f:Wq q->p:=by(intro hW;(refine zs6 ?_;refine aX ?_);exact hW.out)):p:=f ⟨h⟩
theorem zb27{p:Prop}(h:p:=by(first|(apply RS;(exact rfl);(focus((apply aE;(conv=>lhs;whnf);(first|done|exact rfl))));(exact ct);(omega))|(apply eI;(exact rfl);(focus((apply aE;(conv=>lhs;whnf);(first|done|exact rfl))));(exact ct);(exact rfl)))):p:=h
theorem zs19{p q:Prop}(h:q)(f:Wq q->p:=by(intro hW;(refine aL1 rfl rfl rfl zb27 ?_);exact hW.out)):p:=f ⟨h⟩
theorem si{p:Prop}(h:p:=by(apply Nz;(exact rfl);(focus((apply aE;(conv=>lhs;whnf);(first|done|exact rfl)))))):p:=h
theorem zs4{p q:Prop}(h:q)(f:Wq q->p:=by(intro hW;(refine aL1 rfl rfl rfl si ?_);exact hW.out)):p:=f ⟨h⟩
theorem cn{p q:Prop}(h:q)(f:Wq q->p:=by(intro hW;(refine gar ?_;refine zs4 ?_);exact hW.out)):p:=f ⟨h⟩
theorem wM{p q:Prop}(h:q)(f:Wq q->p:=by(intro hW;(refine cn ?_;refine zs19 ?_;refine cK ?_);exact hW.out)):p:=f ⟨h⟩
theorem zb25{p:Prop}(h:p:=by(first|(apply eI;(exact rfl);(focus((apply aE;(conv=>lhs;whnf);(first|done|exact rfl))));(exact ct);(exact rfl))|(apply R8;(exact rfl);(focus((apply aE;(conv=>lhs;whnf);(first|done|exact rfl))));(exact ct);(kernel_rfl)))):p:=h
theorem tF{p q:Prop}(h:q)(f:Wq q->p:=by(intro hW;(refine aL1 rfl rfl rfl zb25 ?_);exact hW.out)):p:=f ⟨h⟩
theorem zb8{p:Prop}(h:p:=by(first|(apply(Ny (c:=65536));(exact rfl);(focus((apply aE;(conv=>lhs;whnf);(first|done|exact rfl))));(exact ct);(exact rfl);(exact rfl);(focus(apply sU;(try simp only[]);omega)))|(apply d_quoP;(exact rfl);(focus((apply aE;(conv=>lhs;whnf);(first|done|exact rfl))));(exact ct);(omega))|(apply RX;(exact rfl);(focus((apply aE;(conv=>lhs;whnf);(first|done|exact rfl))));(exact ct);(omega))|(apply Gn;(exact rfl);(focus((apply aE;(conv=>lhs;whnf);(first|done|exact rfl))));(exact ct);(focus(first|omega|decide))))):p:=h
theorem zs52{p q:Prop}(h:q)(f:Wq q->p:=by(intro hW;(refine aL1 rfl rfl rfl zb8 ?_);exact hW.out)):p:=f ⟨h⟩
theorem yV{p q:Prop}(h:q)(f:Wq q->p:=by(intro hW;(refine cn ?_;refine zs52 ?_;refine cK ?_);exact hW.out)):p:=f ⟨h⟩
theorem bz{p:Prop}(h:p:=by(repeat(first|exact drop_nil|apply PJ|(apply Nv;(exact rfl))))):p:=h
theorem aj{p:Prop}(h:p:=by exact rfl):p:=h
theorem cE{p:Prop}(h:p:=by(apply bh;(conv=>lhs;whnf);(first|done|exact rfl|(apply bg;(first|(apply au;omega)|(apply aw;omega)|assumption|(simp;done)))))):p:=h
theorem Dx{p q:Prop}(h:q)(f:Wq q->p:=by(intro hW;((first|(refine aLs rfl rfl rfl rfl ?_ ?_;(focus(apply bh;(conv=>lhs;whnf);(first|done|exact rfl|(apply bg;(first|(apply au;omega)|(apply aw;omega)|assumption|(simp;done)))))))|refine aLw rfl rfl rfl rfl cE zb25 ?_));exact hW.out)):p:=f ⟨h⟩
theorem cu{p:Prop}(h:p:=by(repeat(first|exact uy|(apply rK;(exact rfl))|(apply uz;(exact rfl))))):p:=h
theorem dT{p:Prop}(h:p:=by(first|exact iM|exact iK|exact iL|exact wd_pt|exact rfl)):p:=h
theorem Jd{p q:Prop}(h:q)(f:Wq q->p:=by(intro hW;((refine ez (k:=2) (z:=(.agg #[.bool false,.slice none 0 0])) (d:=(.nm 0)) rfl rfl rfl rfl rfl ai aj aj dT aj aj cu ?_));exact hW.out)):p:=f ⟨h⟩
theorem zs8{p q:Prop}(h:q)(f:Wq q->p:=by(intro hW;((first|(refine aLs rfl rfl rfl rfl ?_ ?_;(focus(apply bh;(conv=>lhs;whnf);(first|done|exact rfl|(apply bg;(first|(apply au;omega)|(apply aw;omega)|assumption|(simp;done)))))))|refine aLw rfl rfl rfl rfl cE si ?_));exact hW.out)):p:=f ⟨h⟩
theorem lu{p q:Prop}(h:q)(f:Wq q->p:=by(intro hW;(refine aL1 rfl rfl rfl (by(apply uM;(exact rfl);(exact ct))) ?_);exact hW.out)):p:=f ⟨h⟩
theorem Dw{p q:Prop}(h:q)(f:Wq q->p:=by(intro hW;(refine aL1 rfl rfl rfl (by(apply PT;(exact rfl);(focus((apply aE;(conv=>lhs;whnf);(first|done|exact rfl))));(exact rfl))) ?_);exact hW.out)):p:=f ⟨h⟩
theorem jw{p q:Prop}(h:q)(f:Wq q->p:=by(intro hW;(refine gar ?_;refine Dw ?_);exact hW.out)):p:=f ⟨h⟩
theorem zs184{p q:Prop}(h:q)(f:Wq q->p:=by(intro hW;(refine jw ?_;refine lu ?_;refine aX ?_);exact hW.out)):p:=f ⟨h⟩
theorem zs2{p q:Prop}(h:q)(f:Wq q->p:=by(intro hW;(repeat(first|refine Qa ?_|refine GG ?_|refine IL ?_|refine IM ?_|refine NU ?_|with_reducible refine nx_c ?_|with_reducible refine nx_e ?_|with_reducible refine nx_r ?_|with_reducible refine in_n ?_|with_reducible refine in_r ?_|with_reducible refine in_e ?_|with_reducible refine in_x aj ?_));exact hW.out)):p:=f ⟨h⟩
theorem ou{p q:Prop}(h:q)(f:Wq q->p:=by(intro hW;(refine zs2 ?_;refine zs184 ?_;refine zs2 ?_);exact hW.out)):p:=f ⟨h⟩
theorem yk{p:Prop}(h:p:=by(first|(apply KT;(exact rfl);(focus((apply aE;(conv=>lhs;whnf);(first|done|exact rfl))));(kernel_rfl);(kernel_rfl))|(apply uL;(exact rfl);(focus((apply aE;(conv=>lhs;whnf);(first|done|exact rfl))));(kernel_rfl);(exact rfl);(kernel_rfl)))):p:=h
theorem zs26{p q:Prop}(h:q)(f:Wq q->p:=by(intro hW;((first|refine eJ rfl rfl rfl aj yk aj aj ?_|((try refine aY ?_);refine aL1 rfl rfl rfl yk ?_)));exact hW.out)):p:=f ⟨h⟩
theorem jg{p q:Prop}(h:q)(f:Wq q->p:=by(intro hW;((try refine aY ?_);refine aX ?_);exact hW.out)):p:=f ⟨h⟩
theorem zb4{p:Prop}(h:p:=by(first|(apply nr;(exact rfl);(focus((apply aE;(conv=>lhs;whnf);(first|done|exact rfl))));(focus((apply aE;(conv=>lhs;whnf);(first|done|exact rfl))));(kernel_rfl);(kernel_rfl);(omega);(focus((first|(apply get_map;assumption)|(apply get_own;assumption)))))|(apply jT;(exact rfl);(focus((apply aE;(conv=>lhs;whnf);(first|done|exact rfl))));(focus((apply aE;(conv=>lhs;whnf);(first|done|exact rfl))));(focus((repeat(first|exact bF|refine bJ _ ?_))));(kernel_rfl);(kernel_rfl);(focus(first|omega|(simp;omega)));(focus(first|(apply iU;assumption)|exact rfl))))):p:=h
theorem Dy{p q:Prop}(h:q)(f:Wq q->p:=by(intro hW;((first|(refine aLs rfl rfl rfl rfl ?_ ?_;(focus(apply bh;(conv=>lhs;whnf);(first|done|exact rfl|(apply bg;(first|(apply au;omega)|(apply aw;omega)|assumption|(simp;done)))))))|refine aLw rfl rfl rfl rfl cE zb4 ?_));exact hW.out)):p:=f ⟨h⟩
theorem zb2{p:Prop}(h:p:=by(first|(apply Vq;(exact rfl);(focus((apply aE;(conv=>lhs;whnf);(first|done|exact rfl))));(kernel_rfl))|(apply KV;(exact rfl);(focus((apply aE;(conv=>lhs;whnf);(first|done|exact rfl))));(focus((repeat(first|exact bF|refine bJ _ ?_))));(kernel_rfl))|(apply d_len;(exact rfl);(focus((apply aE;(conv=>lhs;whnf);(first|done|exact rfl))));(kernel_rfl))|(apply d_len_own;(exact rfl);(focus((apply aE;(conv=>lhs;whnf);(first|done|exact rfl))));(focus((repeat(first|exact bF|refine bJ _ ?_))));(kernel_rfl))|(apply d_len0;(exact rfl);(focus((apply aE;(conv=>lhs;whnf);(first|done|exact rfl))));(kernel_rfl)))):p:=h
theorem zs5{p q:Prop}(h:q)(f:Wq q->p:=by(intro hW;(refine aL1 rfl rfl rfl zb2 ?_);exact hW.out)):p:=f ⟨h⟩
theorem jv{p q:Prop}(h:q)(f:Wq q->p:=by(intro hW;(refine cn ?_;refine zs5 ?_);exact hW.out)):p:=f ⟨h⟩
theorem zs9{p q:Prop}(h:q)(f:Wq q->p:=by(intro hW;((first|(refine aLs rfl rfl rfl rfl ?_ ?_;(focus(apply bh;(conv=>lhs;whnf);(first|done|exact rfl|(apply bg;(first|(apply au;omega)|(apply aw;omega)|assumption|(simp;done)))))))|refine aLw rfl rfl rfl rfl cE zb27 ?_));exact hW.out)):p:=f ⟨h⟩
theorem zb0{p:Prop}(h:p:=by(first|(apply Au;(exact rfl);(focus((apply aE;(conv=>lhs;whnf);(first|done|exact rfl))));(exact rfl);(focus((first|exact iM|exact iK|exact iL|exact wd_pt|exact rfl)));(exact rfl);(kernel_rfl);(kernel_rfl))|(apply nt;(exact rfl);(focus((apply aE;(conv=>lhs;whnf);(first|done|exact rfl))));(focus((repeat(first|exact bF|refine bJ _ ?_))));(exact mz);(exact rfl);(exact rfl);(focus((first|exact iM|exact iK|exact iL|exact wd_pt|exact rfl)));(exact rfl);(kernel_rfl);(kernel_rfl))|(apply oK;(exact rfl);(focus((apply aE;(conv=>lhs;whnf);(first|done|exact rfl))));(focus((repeat(first|exact bF|refine bJ _ ?_))));(exact rfl);(focus((first|exact mz|(apply uD;assumption)|assumption|(apply vU;(focus assumption);(focus assumption))|exact rfl)));(exact rfl);(focus((first|exact iM|exact iK|exact iL|exact wd_pt|exact rfl)));(exact rfl);(kernel_rfl);(kernel_rfl))|(apply pQ;(exact rfl);(focus((apply aE;(conv=>lhs;whnf);(first|done|exact rfl))));(focus((repeat(first|exact bF|refine bJ _ ?_))));(exact rfl);(focus(first|(apply iU;assumption)|exact rfl));(assumption);(kernel_rfl);(kernel_rfl)))):p:=h
theorem zs18{p q:Prop}(h:q)(f:Wq q->p:=by(intro hW;((first|(refine aLs rfl rfl rfl rfl ?_ ?_;(focus(apply bh;(conv=>lhs;whnf);(first|done|exact rfl|(apply bg;(first|(apply au;omega)|(apply aw;omega)|assumption|(simp;done)))))))|refine aLw rfl rfl rfl rfl cE zb0 ?_));exact hW.out)):p:=f ⟨h⟩
theorem fM{p q:Prop}(h:q)(f:Wq q->p:=by(intro hW;(refine zs4 ?_;refine zs8 ?_);exact hW.out)):p:=f ⟨h⟩
theorem zb3{p:Prop}(h:p:=by(first|(apply nr;(exact rfl);(focus((apply aE;(conv=>lhs;whnf);(first|done|exact rfl))));(focus((apply aE;(conv=>lhs;whnf);(first|done|exact rfl))));(kernel_rfl);(kernel_rfl);(omega);(focus((first|(apply vU;(focus assumption);(focus assumption))|(apply get_map;assumption)|(apply get_own;assumption)))))|(apply jT;(exact rfl);(focus((apply aE;(conv=>lhs;whnf);(first|done|exact rfl))));(focus((apply aE;(conv=>lhs;whnf);(first|done|exact rfl))));(focus((repeat(first|exact bF|refine bJ _ ?_))));(kernel_rfl);(kernel_rfl);(focus(first|omega|(simp;omega)));(focus(first|(apply iU;assumption)|exact rfl))))):p:=h
theorem zs17{p q:Prop}(h:q)(f:Wq q->p:=by(intro hW;((first|(refine aLs rfl rfl rfl rfl ?_ ?_;(focus(apply bh;(conv=>lhs;whnf);(first|done|exact rfl|(apply bg;(first|(apply au;omega)|(apply aw;omega)|assumption|(simp;done)))))))|refine aLw rfl rfl rfl rfl cE zb3 ?_));exact hW.out)):p:=f ⟨h⟩
theorem yj{p:Prop}(h:p:=by(apply eI;(exact rfl);(focus((apply aE;(conv=>lhs;whnf);(first|done|exact rfl))));(exact ct);(exact rfl))):p:=h
theorem zs7{p q:Prop}(h:q)(f:Wq q->p:=by(intro hW;(refine aL1 rfl rfl rfl yj ?_);exact hW.out)):p:=f ⟨h⟩
theorem zb6{p:Prop}(h:p:=by(first|(apply Gp;(exact rfl);(focus((apply aE;(conv=>lhs;whnf);(first|done|exact rfl))));(focus(first|exact rfl|(apply au;omega)|assumption|(simp;done)));(focus((apply aE;(conv=>lhs;whnf);(first|done|exact rfl)))))|(apply Gq;(exact rfl);(focus((apply aE;(conv=>lhs;whnf);(first|done|exact rfl))));(focus(first|exact rfl|(apply aw;omega)|assumption|(simp;done)));(exact lj))|(apply d_pick;(exact rfl);(focus((apply aE;(conv=>lhs;whnf);(first|done|exact rfl))));(focus((apply aE;(conv=>lhs;whnf);(first|done|exact rfl))));(exact lj);(exact rfl)))):p:=h
theorem kv{p q:Prop}(h:q)(f:Wq q->p:=by(intro hW;(refine aL1 rfl rfl rfl zb6 ?_);exact hW.out)):p:=f ⟨h⟩
theorem Ra{p q:Prop}(h:q)(f:Wq q->p:=by(intro hW;(refine cn ?_;refine zs7 ?_;refine fM ?_;refine zs8 ?_;refine zs9 ?_;refine zs17 ?_;refine zs18 ?_;refine Dx ?_;refine kv ?_;refine aX ?_);exact hW.out)):p:=f ⟨h⟩
theorem CY{p q:Prop}(h:q)(f:Wq q->p:=by(intro hW;(refine jw ?_;refine Jd ?_;refine aX ?_);exact hW.out)):p:=f ⟨h⟩
theorem yX{p q:Prop}(h:q)(f:Wq q->p:=by(intro hW;(refine gar ?_;refine lu ?_;refine aX ?_);exact hW.out)):p:=f ⟨h⟩
theorem ov{p q:Prop}(h:q)(f:Wq q->p:=by(intro hW;(refine yX ?_;refine zs2 ?_);exact hW.out)):p:=f ⟨h⟩
theorem iZ{p q:Prop}(h:q)(f:Wq q->p:=by(intro hW;(refine zs2 ?_;refine ov ?_);exact hW.out)):p:=f ⟨h⟩
theorem nF{p:Prop}(h:p:=by(first|(apply aE;(conv=>lhs;whnf);(first|done|exact rfl))|with_reducible exact ct|with_reducible exact lj|with_reducible exact th|exact op_zero)):p:=h
theorem zb1{p:Prop}(h:p:=by(first|(apply Au;(exact rfl);(focus((apply aE;(conv=>lhs;whnf);(first|done|exact rfl))));(exact rfl);(focus((first|exact iM|exact iK|exact iL|exact wd_pt|exact rfl)));(exact rfl);(kernel_rfl);(kernel_rfl))|(apply nt;(exact rfl);(focus((apply aE;(conv=>lhs;whnf);(first|done|exact rfl))));(focus((repeat(first|exact bF|refine bJ _ ?_))));(exact mz);(exact rfl);(exact rfl);(focus((first|exact iM|exact iK|exact iL|exact wd_pt|exact rfl)));(exact rfl);(kernel_rfl);(kernel_rfl))|(apply oK;(exact rfl);(focus((apply aE;(conv=>lhs;whnf);(first|done|exact rfl))));(focus((repeat(first|exact bF|refine bJ _ ?_))));(exact rfl);(focus((first|exact mz|(apply uD;assumption)|assumption|exact rfl)));(exact rfl);(focus((first|exact iM|exact iK|exact iL|exact wd_pt|exact rfl)));(exact rfl);(kernel_rfl);(kernel_rfl))|(apply pQ;(exact rfl);(focus((apply aE;(conv=>lhs;whnf);(first|done|exact rfl))));(focus((repeat(first|exact bF|refine bJ _ ?_))));(exact rfl);(focus(first|(apply iU;assumption)|exact rfl));(assumption);(kernel_rfl);(kernel_rfl)))):p:=h
theorem jW{p q:Prop}(h:q)(f:Wq q->p:=by(intro hW;((first|(refine aLs rfl rfl rfl rfl ?_ ?_;(focus(apply bh;(conv=>lhs;whnf);(first|done|exact rfl|(apply bg;(first|(apply au;omega)|(apply aw;omega)|assumption|(simp;done)))))))|refine aLw rfl rfl rfl rfl cE zb1 ?_));exact hW.out)):p:=f ⟨h⟩
theorem eV{p q:Prop}(h:q)(f:Wq q->p:=by(intro hW;((first|refine eJ rfl rfl rfl aj si aj aj ?_|((try refine aY ?_);refine aL1 rfl rfl rfl si ?_)));exact hW.out)):p:=f ⟨h⟩
theorem zs28{p q:Prop}(h:q)(f:Wq q->p:=by(intro hW;((first|refine eJ rfl rfl rfl aj zb4 aj aj ?_|((try refine aY ?_);refine aL1 rfl rfl rfl zb4 ?_)));exact hW.out)):p:=f ⟨h⟩
theorem fR{p q:Prop}(h:q)(f:Wq q->p:=by(intro hW;((first|refine eJ rfl rfl rfl aj zb1 aj aj ?_|((try refine aY ?_);refine aL1 rfl rfl rfl zb1 ?_)));exact hW.out)):p:=f ⟨h⟩
theorem tH{p q:Prop}(h:q)(f:Wq q->p:=by(intro hW;(refine eV ?_;refine zs28 ?_;refine fR ?_);exact hW.out)):p:=f ⟨h⟩
theorem zb26{p:Prop}(h:p:=by(first|(apply R9;(exact rfl);(focus((apply aE;(conv=>lhs;whnf);(first|done|exact rfl))));(exact ct);(omega))|(apply eI;(exact rfl);(focus((apply aE;(conv=>lhs;whnf);(first|done|exact rfl))));(exact ct);(exact rfl)))):p:=h
theorem Dv{p q:Prop}(h:q)(f:Wq q->p:=by(intro hW;(refine aL1 rfl rfl rfl zb26 ?_);exact hW.out)):p:=f ⟨h⟩
theorem gy{p q:Prop}(h:q)(f:Wq q->p:=by(intro hW;(refine cn ?_;refine Dv ?_;refine cK ?_);exact hW.out)):p:=f ⟨h⟩
theorem aD{p:Prop}(h:p:=by(repeat(first|exact Om|(apply LP;(focus(repeat(first|exact bF|refine bJ _ ?_))))))):p:=h
theorem zb11{p:Prop}(h:p:=by(first|(apply(Nx (c:=65536));(exact rfl);(focus((apply aE;(conv=>lhs;whnf);(first|done|exact rfl))));(exact ct);(exact rfl);(exact rfl))|(apply d_remP;(exact rfl);(focus((apply aE;(conv=>lhs;whnf);(first|done|exact rfl))));(exact ct);(omega))|(apply Gm;(exact rfl);(focus((apply aE;(conv=>lhs;whnf);(first|done|exact rfl))));(exact ct);(focus(first|omega|decide))))):p:=h
theorem cD{p:Prop}(h:p:=by(apply aE;(conv=>lhs;whnf);(first|done|exact rfl))):p:=h
theorem zs3{p q:Prop}(h:q)(f:Wq q->p:=by(intro hW;(refine aL1 rfl rfl rfl (by(apply uM;(exact rfl);(exact th))) ?_);exact hW.out)):p:=f ⟨h⟩
theorem C3{p q:Prop}(h:q)(f:Wq q->p:=by(intro hW;(refine gar ?_;refine zs3 ?_;refine aX ?_);exact hW.out)):p:=f ⟨h⟩
theorem kd{p q:Prop}(h:q)(f:Wq q->p:=by(intro hW;(refine zs2 ?_;refine C3 ?_;refine zs2 ?_);exact hW.out)):p:=f ⟨h⟩
theorem zs35{p q:Prop}(h:q)(f:Wq q->p:=by(intro hW;((first|(apply aB 5;(focus kernel_rfl);(decide+kernel))|(apply aB 4;(focus kernel_rfl);(decide+kernel))|(apply aB 3;(focus kernel_rfl);(decide+kernel))|(apply aB 2;(focus kernel_rfl);(decide+kernel))|(apply aB 1;(focus kernel_rfl);(decide+kernel)));simp only[dJ,dv,eC,cY]);exact hW.out)):p:=f ⟨h⟩
theorem bf{p:Prop}(h:p:=by(repeat(first|exact bF|refine bJ _ ?_))):p:=h
theorem va{p:Prop}(h:p:=by(repeat(first|exact St|apply Su|(apply Oc;(exact rfl))))):p:=h
theorem vc{p:Prop}(h:p:=by first|exact rfl|(apply Fg;intro _;exact rfl)|(apply Ti;apply Fg;intro _;exact rfl)|(apply nw_drop;apply Fg;intro _;exact rfl)|(simp[D.nw];done)):p:=h
theorem zs16{p q:Prop}(h:q)(f:Wq q->p:=by(intro hW;((refine pe rfl rfl rfl rfl cD cD bf aj vc ai ai (by(first|omega|(simp;done)|(simp;omega))) cu va ?_));exact hW.out)):p:=f ⟨h⟩
theorem zb23{p:Prop}(h:p:=by(apply KU;(exact rfl);(focus((apply aE;(conv=>lhs;whnf);(first|done|exact rfl))));(focus((apply aE;(conv=>lhs;whnf);(first|done|exact rfl))));(kernel_rfl);(kernel_rfl);(focus(first|exact mT _|exact rfl));(focus(first|omega|(simp;omega))))):p:=h
theorem zs15{p q:Prop}(h:q)(f:Wq q->p:=by(intro hW;(refine aL1 rfl rfl rfl zb23 ?_);exact hW.out)):p:=f ⟨h⟩
theorem zs14{p q:Prop}(h:q)(f:Wq q->p:=by(intro hW;((refine IS (k:=18) (wd:=1) (T:=Tryz.prog.elem 40) rfl rfl rfl rfl ai ai aj aj cu ?_));exact hW.out)):p:=f ⟨h⟩
theorem Rb{p q:Prop}(h:q)(f:Wq q->p:=by(intro hW;(refine gar ?_;refine zs14 ?_;refine zs4 ?_;refine zs4 ?_;refine zs15 ?_;refine zs16 ?_;refine cK ?_);exact hW.out)):p:=f ⟨h⟩
theorem qf{p:Prop}(h:p:=by(repeat(first|exact set_nil|apply S0|apply S4|(apply OC;(exact rfl))))):p:=h
theorem sf{p:Prop}(h:p:=by first|exact Nat.zero_lt_one|omega|(simp;omega)):p:=h
theorem zs39{p q:Prop}(h:q)(f:Wq q->p:=by(intro hW;(((try refine aY ?_);(refine qe (i:=0) rfl rfl rfl cD cD bf aj sf aj dT aj ai qf ?_)));exact hW.out)):p:=f ⟨h⟩
theorem vd{p:Prop}(h:p:=by(apply oe;(exact rfl);(focus((apply aE;(conv=>lhs;whnf);(first|done|exact rfl))));(focus((apply aE;(conv=>lhs;whnf);(first|done|exact rfl))));(exact rfl);(exact rfl);(assumption);(exact rfl))):p:=h
theorem tG{p q:Prop}(h:q)(f:Wq q->p:=by(intro hW;((first|refine eJ rfl rfl rfl aj vd aj aj ?_|((try refine aY ?_);refine aL1 rfl rfl rfl vd ?_)));exact hW.out)):p:=f ⟨h⟩
theorem wE{p q:Prop}(h:q)(f:Wq q->p:=by(intro hW;(refine tG ?_;refine zs39 ?_;refine jg ?_);exact hW.out)):p:=f ⟨h⟩
theorem cO{p q:Prop}(h:q)(f:Wq q->p:=by(intro hW;(refine cn ?_;refine zs4 ?_);exact hW.out)):p:=f ⟨h⟩
theorem fq{p:Prop}(h:p:=by(apply bh;(conv=>lhs;whnf);(first|done|exact rfl))):p:=h
theorem ve{p:Prop}(h:p:=by(first|(apply PW;(exact rfl);(focus((apply aE;(conv=>lhs;whnf);(first|done|exact rfl))));(kernel_rfl);(kernel_rfl))|(apply uL;(exact rfl);(focus((apply aE;(conv=>lhs;whnf);(first|done|exact rfl))));(kernel_rfl);(exact rfl);(kernel_rfl)))):p:=h
theorem uY{p q:Prop}(h:q)(f:Wq q->p:=by(intro hW;((first|refine eJ rfl rfl rfl aj ve aj aj ?_|((try refine aY ?_);refine aL1 rfl rfl rfl ve ?_)));exact hW.out)):p:=f ⟨h⟩
theorem zb7{p:Prop}(h:p:=by(first|(apply(Gt (q':=.i64));(exact rfl);(focus((apply aE;(conv=>lhs;whnf);(first|done|exact rfl))));(kernel_rfl);(kernel_rfl);(focus(first|(apply sU;(try simp only[]);omega)|exact rfl)))|(apply(Gt (q':=.u32));(exact rfl);(focus((apply aE;(conv=>lhs;whnf);(first|done|exact rfl))));(kernel_rfl);(kernel_rfl);(focus(first|(apply sU;(try simp only[]);omega)|exact rfl)))|(apply(Gt (q':=.u64));(exact rfl);(focus((apply aE;(conv=>lhs;whnf);(first|done|exact rfl))));(kernel_rfl);(kernel_rfl);(focus(first|(apply sU;(try simp only[]);omega)|exact rfl))))):p:=h
theorem zs29{p q:Prop}(h:q)(f:Wq q->p:=by(intro hW;((first|refine eJ rfl rfl rfl aj zb7 aj aj ?_|((try refine aY ?_);refine aL1 rfl rfl rfl zb7 ?_)));exact hW.out)):p:=f ⟨h⟩
theorem zs44{p q:Prop}(h:q)(f:Wq q->p:=by(intro hW;(refine aL1 rfl rfl rfl (by(first|(apply eI;(exact rfl);(focus((apply aE;(conv=>lhs;whnf);(first|done|exact rfl))));(exact ct);(exact rfl))|(apply RY;(exact rfl);(focus((apply aE;(conv=>lhs;whnf);(first|done|exact rfl))));(exact ct);(kernel_rfl)))) ?_);exact hW.out)):p:=f ⟨h⟩
theorem tL{p q:Prop}(h:q)(f:Wq q->p:=by(intro hW;(refine cn ?_;refine zs44 ?_;refine aX ?_);exact hW.out)):p:=f ⟨h⟩
theorem gQ{p q:Prop}(h:q)(f:Wq q->p:=by(intro hW;((apply rX;(focus(first|(apply aE;(conv=>lhs;whnf);(first|done|exact rfl))|with_reducible exact ct|with_reducible exact lj|with_reducible exact th|exact op_zero));(focus(first|with_reducible rfl|(apply aw;omega)|assumption|(simp<;>omega)))));exact hW.out)):p:=f ⟨h⟩
theorem bp{p q:Prop}(h:q)(f:Wq q->p:=by(intro hW;(refine zs2 ?_;refine gQ ?_;refine zs2 ?_);exact hW.out)):p:=f ⟨h⟩
theorem qR{p q:Prop}(h:q)(f:Wq q->p:=by(intro hW;(refine zs2 ?_;refine tL ?_;refine bp ?_);exact hW.out)):p:=f ⟨h⟩
theorem ir{p q:Prop}(h:q)(f:Wq q->p:=by(intro hW;(refine aL1 rfl rfl rfl zb1 ?_);exact hW.out)):p:=f ⟨h⟩
theorem yh{p q:Prop}(h:q)(f:Wq q->p:=by(intro hW;(refine aL1 rfl rfl rfl ve ?_);exact hW.out)):p:=f ⟨h⟩
theorem pA{p q:Prop}(h:q)(f:Wq q->p:=by(intro hW;(refine gar ?_;refine yh ?_;refine ir ?_);exact hW.out)):p:=f ⟨h⟩
theorem JH{p q:Prop}(h:q)(f:Wq q->p:=by(intro hW;(refine pA ?_;refine aX ?_);exact hW.out)):p:=f ⟨h⟩
theorem gP{p q:Prop}(h:q)(f:Wq q->p:=by(intro hW;((apply qM;(focus(first|(apply aE;(conv=>lhs;whnf);(first|done|exact rfl))|with_reducible exact ct|with_reducible exact lj|with_reducible exact th|exact op_zero));(focus(first|with_reducible rfl|(apply au;omega)|assumption|(simp<;>omega)))));exact hW.out)):p:=f ⟨h⟩
theorem zs46{p q:Prop}(h:q)(f:Wq q->p:=by(intro hW;(refine aL1 rfl rfl rfl (by(apply oe;(exact rfl);(focus((apply aE;(conv=>lhs;whnf);(first|done|exact rfl))));(focus((apply aE;(conv=>lhs;whnf);(first|done|exact rfl))));(exact rfl);(exact rfl);(focus((first|exact M l aa h1 h2)));(exact rfl))) ?_);exact hW.out)):p:=f ⟨h⟩
theorem vb{p:Prop}(h:p:=by(apply BN;(exact rfl);(focus((apply aE;(conv=>lhs;whnf);(first|done|exact rfl))));(exact rfl);(assumption);(exact rfl))):p:=h
theorem sd{p q:Prop}(h:q)(f:Wq q->p:=by(intro hW;((first|refine eJ rfl rfl rfl aj vb aj aj ?_|((try refine aY ?_);refine aL1 rfl rfl rfl vb ?_)));exact hW.out)):p:=f ⟨h⟩
theorem J3{p:Prop}(h:p:=by(apply eI;(exact rfl);(focus((apply aE;(conv=>lhs;whnf);(first|done|exact rfl))));(focus((apply aE;(conv=>lhs;whnf);(first|done|exact rfl))));(exact rfl))):p:=h
theorem mJ{p q:Prop}(h:q)(f:Wq q->p:=by(intro hW;(refine aL1 rfl rfl rfl J3 ?_);exact hW.out)):p:=f ⟨h⟩
theorem zs22{p q:Prop}(h:q)(f:Wq q->p:=by(intro hW;(refine aL1 rfl rfl rfl yk ?_);exact hW.out)):p:=f ⟨h⟩
theorem zs180{p q:Prop}(h:q)(f:Wq q->p:=by(intro hW;(refine cn ?_;refine zs22 ?_;refine ir ?_;refine zs5 ?_;refine mJ ?_;refine aX ?_);exact hW.out)):p:=f ⟨h⟩
theorem mG{p q:Prop}(h:q)(f:Wq q->p:=by(intro hW;(refine zs2 ?_;refine zs180 ?_);exact hW.out)):p:=f ⟨h⟩
theorem zb36{p:Prop}(h:p:=by(apply NA;(exact rfl);(focus((apply aE;(conv=>lhs;whnf);(first|done|exact rfl))));(focus((apply aE;(conv=>lhs;whnf);(first|done|exact rfl))));(kernel_rfl);(kernel_rfl))):p:=h
theorem iq{p q:Prop}(h:q)(f:Wq q->p:=by(intro hW;(refine aL1 rfl rfl rfl vb ?_);exact hW.out)):p:=f ⟨h⟩
theorem oy{p q:Prop}(h:q)(f:Wq q->p:=by(intro hW;(refine cn ?_;refine iq ?_;refine cK ?_);exact hW.out)):p:=f ⟨h⟩
theorem C7{p:Prop}(h:p:=by rw[HB5.out];simp;omega):p:=h
theorem mI{p q:Prop}(h:q)(f:Wq q->p:=by(intro hW;(refine gar ?_;refine ir ?_);exact hW.out)):p:=f ⟨h⟩
theorem kW{p q:Prop}(h:q)(f:Wq q->p:=by(intro hW;(refine mI ?_;refine iq ?_);exact hW.out)):p:=f ⟨h⟩
theorem JI{p q:Prop}(h:q)(f:Wq q->p:=by(intro hW;(refine jw ?_;refine zs3 ?_;refine aX ?_);exact hW.out)):p:=f ⟨h⟩
theorem zb105{p:Prop}(h:p:=by simp only[];omega):p:=h
theorem zb35{p:Prop}(h:p:=by first|with_reducible rfl|exact zL aa|exact zL zb105|exact zL aK|(apply zL;omega)|(apply bg;(first|(apply aw;omega)|(apply au;omega)|(simp<;>omega)))):p:=h
theorem az{p:Prop}(h:p:=by(repeat(first|exact SJ|refine On fq zb35 ?_))):p:=h
theorem cT{p q:Prop}(h:q)(f:Wq q->p:=by(intro hW;(refine cK ?_;refine zs2 ?_);exact hW.out)):p:=f ⟨h⟩
theorem Jb{p q:Prop}(h:q)(f:Wq q->p:=by(intro hW;(refine aL1 rfl rfl rfl zb11 ?_);exact hW.out)):p:=f ⟨h⟩
theorem eQ{p q:Prop}(h:q)(f:Wq q->p:=by(intro hW;(refine C3 ?_;refine iZ ?_);exact hW.out)):p:=f ⟨h⟩
theorem bA{p:Prop}(h:p:=by(repeat(first|exact Oz|(apply L6;(exact rfl))|apply OA|apply SW))):p:=h
theorem bw{p q:Prop}(h:q)(f:Wq q->p:=by(intro hW;(refine zs2 ?_;refine gP ?_;refine zs2 ?_);exact hW.out)):p:=f ⟨h⟩
theorem tI{p q:Prop}(h:q)(f:Wq q->p:=by(intro hW;((first|refine eJ rfl rfl rfl aj DU aj aj ?_|((try refine aY ?_);refine aL1 rfl rfl rfl DU ?_)));exact hW.out)):p:=f ⟨h⟩
theorem J2{p:Prop}(h:p:=by(apply PO;(exact rfl);(focus((apply aE;(conv=>lhs;whnf);(first|done|exact rfl)))))):p:=h
theorem zs41{p q:Prop}(h:q)(f:Wq q->p:=by(intro hW;((first|refine eJ rfl rfl rfl aj J2 aj aj ?_|((try refine aY ?_);refine aL1 rfl rfl rfl J2 ?_)));exact hW.out)):p:=f ⟨h⟩
theorem ig{p q:Prop}(h:q)(f:Wq q->p:=by(intro hW;(refine aX ?_;refine zs2 ?_);exact hW.out)):p:=f ⟨h⟩
theorem zs40{p q:Prop}(h:q)(f:Wq q->p:=by(intro hW;((first|(apply aB 6;(focus kernel_rfl);(decide+kernel))|(apply aB 5;(focus kernel_rfl);(decide+kernel))|(apply aB 4;(focus kernel_rfl);(decide+kernel))|(apply aB 3;(focus kernel_rfl);(decide+kernel))|(apply aB 2;(focus kernel_rfl);(decide+kernel))|(apply aB 1;(focus kernel_rfl);(decide+kernel)));simp only[dJ,dv,eC,cY]);exact hW.out)):p:=f ⟨h⟩
theorem AX{p q:Prop}(h:q)(f:Wq q->p:=by(intro hW;((refine pe rfl rfl rfl rfl cD cD bf aj vc ai ai (by(simp only[bC,im,iI];omega)) cu va ?_));exact hW.out)):p:=f ⟨h⟩
theorem zb29{p:Prop}(h:p:=by(apply R4;(exact rfl);(focus((apply aE;(conv=>lhs;whnf);(first|done|exact rfl))));(exact rfl);(focus((first|exact iM|exact iK|exact iL|exact wd_pt|exact rfl)));(kernel_rfl);(kernel_rfl);(exact rfl);(exact rfl))):p:=h
theorem ph{p q:Prop}(h:q)(f:Wq q->p:=by(intro hW;(refine aL1 rfl rfl rfl zb29 ?_);exact hW.out)):p:=f ⟨h⟩
theorem yW{p q:Prop}(h:q)(f:Wq q->p:=by(intro hW;(refine cO ?_;refine ph ?_;refine AX ?_;refine cK ?_);exact hW.out)):p:=f ⟨h⟩
theorem lT{p q:Prop}(h:q)(f:Wq q->p:=by(intro hW;((refine qe (i:=0) rfl rfl rfl cD cD bf aj sf aj dT aj ai qf ?_));exact hW.out)):p:=f ⟨h⟩
theorem gw{p q:Prop}(h:q)(f:Wq q->p:=by(intro hW;(refine lT ?_;refine aX ?_);exact hW.out)):p:=f ⟨h⟩
theorem ja{p q:Prop}(h:q)(f:Wq q->p:=by(intro hW;(refine cn ?_;refine zs7 ?_;refine aX ?_);exact hW.out)):p:=f ⟨h⟩
end
section
open Go.RowKit Go.BigFrame
attribute [local go_sem ↓] Go.wp_at_zero Go.wp_at_succ
def pk:List Nat->List Nat
 |[]=>[]
 |[x]=>[x]
 |x::y::l=>(x+y*65536)::pk l
theorem RF:∀l:List Nat,Dg.vl B32 (pk l)=Dg.vl B16 l
 |[]=>rfl
 |[x]=>rfl
 |x::y::l=>by
  simp only[pk,Dg.fH,RF l,B16,B32];omega
theorem Mv:∀{l:List Nat},Dg.dig B16 l->Dg.dig B32 (pk l)
 |[],_=>fun x h=>by cases h
 |[x],h=>fun y hy=>by
  simp only[pk,bU]at hy;have:=h x bF;subst hy;show y<4294967296;have:y<65536:=this;omega
 |x::y::l,h=>by
  have h1:=Dg.mg h;have h2:=Dg.mg h1.2;have h3:=Mv h2.2;have h4:x<65536:=h1.1;have h5:y<65536:=h2.1;intro z hz;simp only[pk,bP]at hz;rcases hz with rfl|hz
  ·show x+y*65536<4294967296;omega
  ·exact h3 z hz
theorem RG:∀{l:List Nat},l≠[]->pk l≠[]
 |[],h=>absurd rfl h
 |[x],_=>by simp[pk]
 |x::y::l,_=>by simp[pk]
theorem Hr:∀{l:List Nat},l.getLast?≠some 0->(pk l).getLast?≠some 0
 |[],h=>h
 |[x],h=>h
 |x::y::[],h=>by
  simp[pk]at h⊢;omega
 |x::y::z::l,h=>by
  have h1:(z::l).getLast?≠some 0:=by simpa using h
  have h2:=Hr h1;have h3:pk (z::l)≠[]:=RG aK;simp only[pk];rw[List.getLast?_cons];obtain⟨u,hu⟩:∃u,(pk (z::l)).getLast?=some u:=by
   cases h4:(pk (z::l)).getLast? with
   |none=>rw[List.getLast?_eq_none_iff]at h4;exact absurd h4 h3
   |some u=>exact⟨u,rfl⟩
  rw[hu]at h2⊢;simpa using h2
theorem pk_nf{l:List Nat}(h:Dg.NF B16 l):Dg.NF B32 (pk l):=⟨Mv h.dg,Hr h.nz⟩
theorem Hq:∀{l:List Nat} {k x:Nat},l[2*k]?=some x->pk (l.take (2*k+2))=pk (l.take (2*k))++[x+l.getD (2*k+1) 0*65536]
 |[],k,x,h=>by simp at h
 |[y],0,x,h=>by
  simp at h;subst h;simp[pk]
 |[y],k+1,x,h=>by simp at h
 |y::z::l,0,x,h=>by
  simp at h;subst h;simp[pk]
 |y::z::l,k+1,x,h=>by
  have e:2*(k+1)=2*k+1+1:=by omega
  rw[e]at h⊢;have h1:l[2*k]?=some x:=by simpa using h
  have h2:=Hq h1;simp only[dJ,pk,wY,tV,h2]
theorem O3{l:List Nat}{k x:Nat}(hk:k%2=0)(h:l[k]?=some x):pk (l.take (k+2))=pk (l.take k)++[x+l.getD (k+1) 0*65536]:=by
 obtain⟨j,rfl⟩:∃j,k=2*j:=⟨k/2,by omega⟩;exact Hq h
theorem UX{l:List Nat}{k:Nat}(h:l.length<=k):pk (l.take k)=pk l:=by rw[cj h]
theorem Mu:∀l:List Nat,(pk l).length<=l.length
 |[]=>af _
 |[x]=>af _
 |x::y::l=>by have:=Mu l;simp[pk];omega
theorem gG.L8{w:World}{base:Nat}{v:Value}{l:List Nat}(h:gG w base v l){g o:Nat}(u:Value)(hg:g<base):gG (w.setCell ⟨g,o,none⟩ u) base v l:=by
 refine World.ownsRow.kept h (kN w g o u) ?_
 cases e:v.ownBlock with
 |none=>exact .inl rfl
 |some k=>
  right;intro e2;have:=(World.ownsRow.lt h k e).1;cases e2;omega
set_option maxRecDepth 10000 in
set_option maxHeartbeats 8000000 in
theorem Nj(s:Bool)(l:List Nat)(v:Value)(hl:l.length<=2000000000000)(hd:Dg.dig B16 l)(w:World)(TR0:∀W,Below w.heap.size w W->Calls Tryz.prog 188 #[v] W fun e w'=>HRes w' e (Dg.vl B16 l)/\Below W.heap.size W w'):
  Calls Tryz.prog 150 #[.bool s,v] w fun e w'=>(∃x,e= .returned (.agg #[.bool x.s,.slice x.a x.n x.cap])/\IZ w' x (Dg.iv s (Dg.vl B16 l)))/\Below w.heap.size w w':=by
 have TR:=ae TR0;clear TR0;have hN:=Dg.cr hd;have LB:Hid (∀m:List Nat,Dg.NF B16 m->Dg.vl B16 m=Dg.vl B16 l->m.length<=2000000000000):=fun m h1 h2=>by
  rcases Nat.lt_or_ge l.length m.length with h3|h3
  ·obtain⟨k,hk⟩:∃k,m.length=k+1:=⟨m.length-1,by omega⟩;have h4:=Dg.nd hk h1;have h5:=Dg.cr hd;have h6:B16^l.length<=B16^k:=cH av aa;omega
  ·omega
 generalize hNe:Dg.vl B16 l=N at*;clear hNe hN hd;obtain⟨d,hd⟩:∃d,d=decide (N≠0):=⟨_,rfl⟩;have fin:∀(c:Bool),(c=(s&&d))->∀(m:List Nat) (w':World) (v1:Value) (base:Nat),Dg.NF B16 m->Dg.vl B16 m=N->gG w' base v1 (pk m)->∃x:IV,v1= .slice x.a x.n x.cap/\x.s=c/\IZ w' x (Dg.iv s N):=fun c hc m w' v1 base h1 h2 h3=>by
  obtain⟨a,cap,e,h4,_,h5,_⟩:=h3.ws;refine⟨⟨c,a,(pk m).length,cap⟩,e,rfl,pk m,⟨rfl,h4,h5,pk_nf h1⟩,fun e=>?_,?_⟩
  ·have:m=[]:=Decidable.byContradiction fun hm=>RG hm e;subst this;have:N=0:=h2.symm;subst this;simp[hc,hd]
  ·rw[RF,h2];by_cases h0:N=0
   ·subst h0;rw[Dg.tv,Dg.tv]
   ·simp[hc,hd,h0]
 have FIN:=ae fin;clear fin;have key:∀m,Dg.NF B16 m->Dg.vl B16 m=N->decide ((0:Int)<(m.length:Int))=d:=fun m h1 h2=>by
  have h3:=Dg.xv h1 av;rw[hd,decide_eq_decide,<-h2];constructor
  ·intro h4 h5;rw[h3.1 h5]at h4;simp at h4
  ·intro h4;have:m≠[]:=fun e=>h4 (h3.2 e);have:=il.2 this;omega
 have KEY:=ae key;clear key hd;obtain⟨c0,hc0⟩:∃c0,c0=(s&&d):=⟨_,rfl⟩;have W1b:∀(W:World) (b x:Nat),b=W.heap.size->WS (W.alloc (.cells #[.int .u32 (x:Int)] 138)) (some ⟨b,0,none⟩) [x]:=fun W b x hb=>G8 W _ b x hb;have WB:=ae W1b;have FIN1:=ae (FIN.out c0 hc0);clear W1b FIN;cases s<;>cases d;all_goals
  simp only[Bool.and_false,Bool.and_true]at hc0;have HC0:=ae hc0;clear hc0
  go_enter Tryz.func150,Tryz.ntmps150
  go_wp2_with (first|(go_at_call 188;(with_reducible refine(TR.out _ ?_).mono ?_);(exact bel);rintro e w1 ⟨⟨v1,m,rfl,h1,h2,h3⟩,hb1⟩;obtain⟨a1,c1,rfl,hle1,hv1⟩:=h1.parts;have hdf:=KEY.out m h2 h3;have HM:=ae (And.intro h2 h3);have hml:=LB.out m h2 h3;clear h1 h2 h3;obtain⟨g1,rfl⟩:=mob hb1;clear hb1;have HS1:=ae hv1;clear hv1;(obtain⟨q,hq⟩:∃q,q=m.length:=(⟨_,rfl⟩));have HQ:=ae hq;rw[<-hq]at hdf hml⊢;clear hq hle1))
  have hb5:∃b5,b5=w.heap.size+1+g1.2.size:=⟨_,rfl⟩;obtain⟨b5,hb5⟩:=hb5;have HB5:=ae hb5;have hqb:(q:Int)<=2000000000000:=by omega
  rw[<-hb5];clear hb5
  go_loopw [6] (fun i wr=>∃(k:Nat) (v:Value),k<=q+1/\i= .int .i64 ((k:Int))/\Hid (k%2=0)/\wr.cell? ⟨b5,0,none⟩=some (.bool c0)/\wr.cell? ⟨b5,1,none⟩=some v/\wr.frozen? ⟨b5,1,none⟩=false/\b5<wr.heap.size/\Hid (gG wr (b5+1) v (pk (m.take k))/\Below b5 (more (w.alloc (.cells #[.bool false,.slice none 0 0] 62)) g1) wr)) (fun i _=>q+1-(intOf i).toNat)
  case atStart=>
   refine⟨0,.slice none 0 0,by omega,rfl,rfl,?_,?_,?_,?_,gG.nil _ _,?_⟩
   ·rw[HB5.out,HC0.out];go_simp<;>(simp at hdf;omega)
   ·rw[HB5.out];go_simp
   ·rw[HB5.out];go_simp
   ·rw[HB5.out];simp
   ·rw[HB5.out];refine Below.alloc (Below.refl _ _) ?_ _;simp
  case round=>
   obtain⟨k,v,hk,rfl,HK,k0,k1,kf,kl,HR⟩:=hrel;by_cases hkq:k<q
   ·have hkq2:(k:Int)<(q:Int):=by omega
    obtain⟨x,hx⟩:∃x,m[k]?=some x:=⟨_,aV (by rw[<-HQ.out];exact hkq)⟩;have hxb:x<65536:=HM.out.1.dg x (bj hx);rcases HS1.out.below (HR.out.2) (by rw[HB5.out];simp)with h0|⟨g,ha,hg,hcc⟩
    ·rw[h0]at hx;simp at hx
    have c2:=hcc k x hx;subst ha;have PK0:=O3 HK.out hx;obtain⟨z,hz⟩:∃z,z=x+m.getD (k+1) 0*65536:=⟨_,rfl⟩;rw[<-hz]at PK0;have HZ:=ae hz;have PK:=ae PK0;clear hz PK0;have hlen:(pk (m.take k)).length+[z].length<=4000000000000:=by
     have:=Mu (m.take k);rw[aP]at this;simp;omega
    by_cases hkq3:k+1<q
    ·have hkq4:(k:Int)+1<(q:Int):=by omega
     obtain⟨y,hy⟩:∃y,m[k+1]?=some y:=⟨_,aV (by rw[<-HQ.out];exact hkq3)⟩;have hyb:y<65536:=HM.out.1.dg y (bj hy);have c3:=hcc (k+1) y hy;have hyd:m.getD (k+1) 0=y:=by rw[aG,hy];rfl
     have HY:Hid (∀(W:World) (b:Nat),b=W.heap.size->WS (W.alloc (.cells #[.int .u32 ((x:Int)+(y:Int)*65536)] 138)) (some ⟨b,0,none⟩) [z]):=fun W b hb=>by
      rw[show(x:Int)+(y:Int)*65536=(z:Int) by have:=HZ.out;rw[hyd]at this;omega];exact WB.out W b _ hb
     have hx2:(x:Int)<65536:=by omega
     have hy2:(y:Int)<65536:=by omega
     clear hcc hx hy hyd hxb hyb
     go_wp2_with (first|(at_builtin;go_must (refine kQ (w0:=wr) (base:=b5+1) (v:=v) (l:=pk (m.take k)) ?_ ?_ ?_ 60 60 Tryz.underlying60 Tryz.underlying60 [z] wr.heap.size 1 1 rfl ?_ hlen rfl (.tmp 43) (.tmp 45) rfl (by rfl) (by rfl) ?_);(exact World.ownsRow.alloc HR.out.1 _);(exact bel);(focus(simp;omega));(exact HY.out _ _ aK);intro v4 w4 hown4 hB4 hz4;obtain⟨a4,cap4,hv4,_⟩:=hown4.ws;subst hv4;have HO4:=ae (And.intro hown4 hB4);have k4:=(hB4.cell (p:=⟨b5,0,none⟩) (gV _)).trans k0;have k5:=(hB4.cell (p:=⟨b5,1,none⟩) (gV _)).trans k1;have k6:=(hB4.frozen (p:=⟨b5,1,none⟩) (gV _)).trans kf;clear hown4 hB4))
     go_roundw
     case rel=>
      refine⟨k+2,.slice a4 ((pk (m.take k)).length+1) cap4,by omega,by go_num,by have:=HK.out;show(k+2)%2=0;omega,?_,?_,?_,?_,?_,?_⟩
      ·rw[dm _ _ _ _ _ aa];exact k4
      ·exact ew _ _ _ _ _ k5
      ·rw[World.frozen?_setCell];exact k6
      ·simp;omega
      ·have h1:=HO4.out.1;rw[show(pk (m.take k)++[z]).length=(pk (m.take k)).length+1 by simp]at h1;rw[<-PK.out]at h1;exact h1.L8 _ (gV _)
      ·exact Below.setCell (Below.trans HR.out.2 (HO4.out.2.mono (jJ _))) (af _) _
     case measure=>simp[intOf];omega
    ·have hkq4:¬(k:Int)+1<(q:Int):=by omega
     have hyd:m.getD (k+1) 0=0:=by rw[aG,gA (by rw[<-HQ.out];omega)];rfl
     have HY:Hid (∀(W:World) (b:Nat),b=W.heap.size->WS (W.alloc (.cells #[.int .u32 (x:Int)] 138)) (some ⟨b,0,none⟩) [z]):=fun W b hb=>by
      rw[show(x:Int)=(z:Int) by have:=HZ.out;rw[hyd]at this;omega];exact WB.out W b z hb
     have hx2:(x:Int)<65536:=by omega
     clear hcc hx hyd hxb
     go_wp2_with (first|(at_builtin;go_must (refine kQ (w0:=wr) (base:=b5+1) (v:=v) (l:=pk (m.take k)) ?_ ?_ ?_ 60 60 Tryz.underlying60 Tryz.underlying60 [z] wr.heap.size 1 1 rfl ?_ hlen rfl (.tmp 43) (.tmp 45) rfl (by rfl) (by rfl) ?_);(exact World.ownsRow.alloc HR.out.1 _);(exact bel);(focus(simp;omega));(exact HY.out _ _ aK);intro v4 w4 hown4 hB4 hz4;obtain⟨a4,cap4,hv4,_⟩:=hown4.ws;subst hv4;have HO4:=ae (And.intro hown4 hB4);have k4:=(hB4.cell (p:=⟨b5,0,none⟩) (gV _)).trans k0;have k5:=(hB4.cell (p:=⟨b5,1,none⟩) (gV _)).trans k1;have k6:=(hB4.frozen (p:=⟨b5,1,none⟩) (gV _)).trans kf;clear hown4 hB4))
     go_roundw
     case rel=>
      refine⟨k+2,.slice a4 ((pk (m.take k)).length+1) cap4,by omega,by go_num,by have:=HK.out;show(k+2)%2=0;omega,?_,?_,?_,?_,?_,?_⟩
      ·rw[dm _ _ _ _ _ aa];exact k4
      ·exact ew _ _ _ _ _ k5
      ·rw[World.frozen?_setCell];exact k6
      ·simp;omega
      ·have h1:=HO4.out.1;rw[show(pk (m.take k)++[z]).length=(pk (m.take k)).length+1 by simp]at h1;rw[<-PK.out]at h1;exact h1.L8 _ (gV _)
      ·exact Below.setCell (Below.trans HR.out.2 (HO4.out.2.mono (jJ _))) (af _) _
     case measure=>simp[intOf];omega
   ·have hkq2:¬(k:Int)<(q:Int):=by omega
    have hfin:=FIN1.out m wr v (b5+1) HM.out.1 HM.out.2 (by have h1:=HR.out.1;rw[UX (by rw[<-HQ.out];omega)]at h1;exact h1);obtain⟨y,rfl,rfl,hy⟩:=hfin;have HY:=ae hy;have r0:wr.cell? ⟨w.heap.size,0,none⟩=some (.bool false):=(HR.out.2.cell (p:=⟨w.heap.size,0,none⟩) C7).trans (by go_simp);have r1:wr.cell? ⟨w.heap.size,1,none⟩=some (.slice none 0 0):=(HR.out.2.cell (p:=⟨w.heap.size,1,none⟩) C7).trans (by go_simp);have r2:wr.frozen? ⟨w.heap.size,0,none⟩=false:=(HR.out.2.frozen (p:=⟨w.heap.size,0,none⟩) C7).trans (by go_simp);have r3:wr.frozen? ⟨w.heap.size,1,none⟩=false:=(HR.out.2.frozen (p:=⟨w.heap.size,1,none⟩) C7).trans (by go_simp);have r4:w.heap.size<wr.heap.size:=by have:=kl;have:=HB5.out;omega
    have hB6:Below w.heap.size w wr:=Below.trans (b:=more (w.alloc (.cells #[.bool false,.slice none 0 0] 62)) g1) ao (HR.out.2.mono (by rw[HB5.out];omega));have HB6:=ae hB6;clear hy hB6
    go_wp2_with fail
    refine bodyPost_ret (v:=.agg #[.bool y.s,.slice y.a y.n y.cap]) (by simp[results,Tryz.results150,go_sem,r0,r1]) rfl ⟨⟨y,rfl,?_⟩,?_⟩
    ·refine(HY.out.off (Off.set wr w.heap.size 0 _) r0).off (Off.set _ w.heap.size 1 _) (c:=y.s) ?_;exact ew _ _ _ _ _ r0
    ·have hB:=HB6.out;exact bel
end
section
open Go.RowKit
namespace DW
theorem rQ{l:List Nat}{k:Nat}(h:k<l.length):l[k]?=some (l.getD k 0):=by rw[aG,aV h];rfl
theorem hd_of{l:List Nat}(h:Dg.dig 65536 l):l.take (tl l)=hd (Dg.vl 65536 l):=by
 obtain⟨h1,h2⟩:=Sw h;have:=Dg.Gk av h1;rw[h2]at this;exact this.symm
abbrev trimQ(N:Nat)(e:Exit)(s:S):Prop:=(e= .normal\/e= .ret)/\s.gt 2= .own 18/\(18,(⟨3,1,(hd N).map hN⟩:Ow))∈s.ow
set_option maxRecDepth 20000 in
set_option maxHeartbeats 1000000 in
theorem LG(X0:Nat->Prop)(l:List Nat)(hl:l.length<=900000000)(hdg:Dg.dig 65536 l):∃c,Tryz.f188.body=some c/\aW Tryz.prog X0 Tryz.f188.ntmps c (trimQ (Dg.vl 65536 l)) ⟨aO 0 [dN l],[]⟩:=by
 refine⟨_,rfl,?_⟩;have HT:=hd_of hdg;simp only[aO];refine kd ?_;refine jv ?_;refine cT ?_
 (refine ay (aq (sl':=[(0,dN l),(3,zI l.length)]) (ow':=[]) az aD) ?_)
 refine bc (fun k s=>tl l<=k/\k<=l.length/\s=⟨[(0,dN l),(3,zI k)],[]⟩) (m:=l.length) ⟨kg l,af _,rfl⟩ fun k s hs=>?_;obtain⟨hk1,hk2,rfl⟩:=hs;have fin':∀(K:Exit->S->Prop),k=tl l->([]++(l.map hN).take k)=(hd (Dg.vl 65536 l)).map hN:=fun _ e=>by rw[gj,<-List.map_take,e,HT]
 by_cases hk0:k=0
 ·subst hk0;have ht:tl l=0:=by omega
  refine zs2 ?_;refine cn ?_;refine zs7 ?_;refine fM ?_;refine zs8 ?_;refine zs9 ?_;refine Dy ?_;refine jW ?_;refine Dx ?_;refine kv ?_;refine ig ?_;refine rX nF (by rfl) ?_;refine zs2 ?_;refine Rb ?_;refine zs2 ?_;exact⟨.inr rfl,by rfl,by rw[<-fin' (fun _ _=>True) ht.symm];exact bF⟩
 ·have hx:=rQ (l:=l) (k:=k-1) aa;obtain⟨x,hxd⟩:∃x,x=l.getD (k-1) 0:=⟨_,rfl⟩;rw[<-hxd]at hx;have hcast:(k:Int)-1=((k-1:Nat):Int):=by omega
  by_cases hx0:x=0
  ·have hlt : tl l < k := by
    rcases sX l with h|h
    ·omega
    ·apply Nat.lt_of_le_of_ne hk1;intro e;rw[e]at h;exact h (by rw[<-hxd,hx0])
   refine zs2 ?_;refine Ra ?_;refine zs2 ?_;refine qM nF (au aa) ?_;refine zs2 ?_;refine wM ?_;simp only[nx,inB];exact⟨k-1,_,by omega,(aq (sl':=[(0,dN l),(3,zI (k-1:Nat))]) (ow':=[]) az aD),by omega,by omega,rfl⟩
  ·have ht : k = tl l := by
    apply wX _ hk1;apply dQ;intro h;exact hx0 (by rw[hxd];exact pX l (k-1) aa)
   refine zs2 ?_;refine Ra ?_;refine zs2 ?_;refine rX nF (aw aa) ?_;refine zs2 ?_;refine Rb ?_;refine zs2 ?_;exact⟨.inr rfl,by rfl,by rw[<-fin' (fun _ _=>True) ht];exact bF⟩
theorem LI(l:List Nat)(hl:l.length<=900000000)(hdg:Dg.dig 65536 l):Fn Tryz.prog 188 [dN l] (dN (hd (Dg.vl 65536 l))):=by
 refine ba Tryz.func188 ai rfl rfl rfl fun X0=>?_;obtain⟨c,h1,h2⟩:=LG X0 l hl hdg;cases h1;refine h2.mono fun e s ⟨h3,h4,h5⟩=>?_;have:=TG (P:=Tryz.prog) (X0:=X0) (n:=Tryz.f188.ntmps) (fn:=Tryz.f188) (s:=s) (t:=2) rfl h4 h5;rcases h3 with rfl|rfl<;>exact this
theorem Ni(l:List Nat)(hl:l.length<=900000000)(hdg:Dg.dig 65536 l)(X:Nat->Prop)(w:World)(v:Value)(hX:XW X w)(hv:AR X w (dN l) v):Calls Tryz.prog 188 #[v] w fun e w'=>HRes w' e (Dg.vl 65536 l)/\Below w.heap.size w w':=by
 obtain⟨c,h1,h2⟩:=LG X l hl hdg;refine NJ (ds:=[dN l]) Tryz.func188 h1 rfl rfl hX (by simp only[ATp];exact⟨v,[],rfl,hv,rfl⟩) _ h2 fun e s f a w' ⟨h3,h4,h5⟩ hh=>⟨h3,a.tmps.getD 2 undef,results_tmp rfl a.tmps _ _,⟨_,hd (Dg.vl 65536 l),rfl,?_,(Dg.dz av _).1,(Dg.dz av _).2⟩,hh.bl.low⟩;have h6:=hh.sl 2;rw[h4]at h6;simp only[SR]at h6;rw[h6];obtain⟨_,xs,⟨k1,k2⟩,k3⟩:=hh.ow _ h5;simp only[bC]at k1 k2 k3;rcases k2 with⟨k4,k5⟩|⟨g,cap,cur,k4,_,hgg,hle,hm,hcs,htk⟩
 ·exact .inl ⟨k4,fN k5⟩
 ·refine .inr ⟨g,cap,k4,hle,hm,(gS.1 hgg).1,fun k x hk=>?_⟩;have hd':((hd (Dg.vl 65536 l)).map hN)[k]?=some (hN x):=by rw[bW,hk];rfl
  obtain⟨u,e1,_,_,e4⟩:=Els.at k3 hd';simp only[AR]at e1;have h7:=e4 0 u (by rw[js (by rw[e1.1];rfl)];rfl);rw[eX,cg]at h7;rw[cell_of_row w' g _ cur _ (0,0) hgg];have hlt:=(cB.1 h7).1;rw[<-htk,aP]at hlt;rw[<-htk,ik aa,dG]at h7;rw[h7,e1.1]
theorem Fv(s:Bool)(l:List Nat)(hl:l.length<=900000000)(hdg:Dg.dig 65536 l):Fn Tryz.prog 150 [.sc (.bool s),dN l] (.nm (Dg.iv s (Dg.vl 65536 l))):=by
 refine⟨Go.Proofs.enters_of Tryz.func150 ai rfl,fun X w vs hX hv=>?_⟩;simp only[ATp]at hv;obtain⟨v1,r1,e,h1,v2,r2,e2,h2,e3⟩:=hv;simp only[AR]at h1;rw[e2,e3,h1.1]at e;have:vs= #[.bool s,v2]:=cQ.1 e;subst this;exact(Nj s l v2 aa hdg w fun W hW=>Ni l hl hdg X W v2 (hX.grow hW) (h2.grow hW)).mono fun e w' ⟨⟨x,k1,k2⟩,k3⟩=>⟨_,k1,by simp only[AR];exact⟨x,rfl,k2⟩,k3⟩
set_option maxRecDepth 20000 in
set_option maxHeartbeats 1000000 in
theorem PU(z:Int)(hz:(wds z.natAbs).length<=400000000):Fn Tryz.prog 151 [.nm z] (dN (hd z.natAbs)):=by
 refine ba Tryz.func151 ai rfl rfl rfl fun X0=>?_;simp only[aO];have hv:Dg.vl B32 (wds z.natAbs)=z.natAbs:=(Dg.dz av _).2;have hdu:Dg.dig B32 (wds z.natAbs):=(Dg.dz av _).1.dg;have hvl:Dg.vl 65536 (hw (wds z.natAbs))=z.natAbs:=by rw[RM,hv]
 have TRIM:=LI (hw (wds z.natAbs)) (by rw[FH];omega) (Nh hdu);rw[hvl]at TRIM;refine zs2 ?_;refine JI ?_;refine zs2 ?_;refine eQ ?_;refine ay (da (t:=3) (k:=3) (T:=3) (wd:=1) fq rfl rfl cu) ?_
 (refine ay (aq (sl':=[(1,.pt (.nm z)),(3,.own 3),(4,zI 0)]) (ow':=[(3,⟨3,1,[]⟩)]) az aD) ?_)
 refine bc (fun r s=>∃k,k<=(wds z.natAbs).length/\r=(wds z.natAbs).length-k/\s=⟨[(1,.pt (.nm z)),(3,.own 3),(4,zI k)],[(3,⟨3,1,(hw ((wds z.natAbs).take k)).map hN⟩)]⟩) (m:=(wds z.natAbs).length) ⟨0,by omega,rfl,by simp[hw]⟩ fun r s hs=>?_;obtain⟨k,hk,rfl,rfl⟩:=hs;by_cases hkl:k<(wds z.natAbs).length
 ·have hx:=rQ hkl;obtain⟨x,hxd⟩:∃x,x=(wds z.natAbs).getD k 0:=⟨_,rfl⟩;rw[<-hxd]at hx;have hx32:x<4294967296:=hdu x (bj hx);have hql:x/65536<65536:=by omega
  refine mG ?_;refine zs2 ?_;refine qM nF (au aa) ?_;refine zs2 ?_;((first|(apply aB 16;(focus kernel_rfl);(decide+kernel))|(apply aB 15;(focus kernel_rfl);(decide+kernel))|(apply aB 14;(focus kernel_rfl);(decide+kernel))|(apply aB 13;(focus kernel_rfl);(decide+kernel))|(apply aB 12;(focus kernel_rfl);(decide+kernel))|(apply aB 11;(focus kernel_rfl);(decide+kernel))|(apply aB 10;(focus kernel_rfl);(decide+kernel))|(apply aB 9;(focus kernel_rfl);(decide+kernel)));simp only[dJ,dv,eC,cY]);refine eV ?_;refine zs26 ?_;refine fR ?_;refine tH ?_;(first|refine eJ rfl rfl rfl aj zb11 aj aj ?_|((try refine aY ?_);refine aL1 rfl rfl rfl zb11 ?_));refine zs29 ?_;refine zs26 ?_;refine fR ?_;refine tH ?_;(first|refine eJ rfl rfl rfl aj zb8 aj aj ?_|((try refine aY ?_);refine aL1 rfl rfl rfl zb8 ?_));refine zs29 ?_;(first|refine eJ rfl rfl rfl aj zb36 aj aj ?_|((try refine aY ?_);refine aL1 rfl rfl rfl zb36 ?_));((try refine aY ?_);(refine pe rfl rfl rfl rfl cD cD bf aj vc ai ai (by(simp only[bC,FH,aP,im,iI];omega)) cu va ?_));refine tI ?_;refine jg ?_;refine zs2 ?_;refine gy ?_;simp only[nx,inB];refine⟨(wds z.natAbs).length-(k+1),_,by omega,(aq (sl':=[(1,.pt (.nm z)),(3,.own 3),(4,zI (k+1:Nat))]) (ow':=[(3,⟨3,1,(hw ((wds z.natAbs).take k)).map hN++[hN (x%65536),hN (x/65536)]⟩)]) az aD),k+1,by omega,rfl,?_⟩;rw[TB hx,db];rfl
 ·have hke:k=(wds z.natAbs).length:=by omega
  subst hke;rw[et];refine mG ?_;refine zs2 ?_;refine rX nF (aw aa) ?_;refine zs2 ?_;refine ay (aA (k:=3) bf bA bz) ?_;refine oy ?_;refine zs2 ?_;exact⟨_,Sh.refl,.one (.tmp 2) _ rfl (.tmp 2 rfl)⟩
end DW
end
section
open Go.RowKit
namespace DW
theorem jt{n k:Nat}(h:n<65536^k):(hd n).length<=k:=by
 apply dQ;intro hlt;obtain⟨j,hj⟩:∃j,(hd n).length=j+1:=⟨(hd n).length-1,by omega⟩;have h1:=Dg.nd hj (Dg.dz av n).1;rw[show Dg.vl 65536 (hd n)=n from(Dg.dz av n).2]at h1;have h2:=cH (n:=65536) aa (show k<=j by omega);omega
theorem rP(n:Nat):n<65536^(hd n).length:=by
 have h:=Dg.cr (Dg.dz (b:=65536) av n).1.dg;rw[(Dg.dz av n).2]at h;exact h
theorem jR{m n:Nat}(h:m<=n):(hd m).length<=(hd n).length:=jt (gi h (rP n))
theorem Sq(n:Nat):(wds n).length<=(hd n).length:=by
 by_cases h0:(wds n).length=0
 ·omega
 ·obtain⟨j,hj⟩:∃j,(wds n).length=j+1:=⟨(wds n).length-1,by omega⟩;have h1:=Dg.nd hj (Dg.dz (b:=4294967296) av n).1;rw[show Dg.vl 4294967296 (wds n)=n from(Dg.dz av n).2]at h1;have h2:(4294967296:Nat)^j=65536^(2*j):=by rw[Nat.pow_mul]
  rw[h2]at h1;have h3:=gi h1 (rP n);have h4:=(Nat.pow_lt_pow_iff_right (by omega:1<65536)).1 h3;omega
theorem jN(n:Nat):Dg.dig 65536 (hd n):=(Dg.dz av n).1.dg
theorem jF(n:Nat):Dg.vl 65536 (hd n)=n:=(Dg.dz av n).2
theorem nk(n:Nat):(hd n).length=0↔n=0:=by
 rw[List.length_eq_zero_iff];exact Dg.TX av
def Hf(z:Int):Prop:=(hd z.natAbs).length<=200000000
theorem Hf.neg{z:Int}(h:Hf z):Hf (-z):=by unfold Hf;rw[vA];exact h
theorem iC{z:Int}(h:Hf z):Fn Tryz.prog 151 [.nm z] (dN (hd z.natAbs)):=PU z (by have:=Sq z.natAbs;unfold Hf at h;omega)
theorem zA{l:List Nat}(hl:l.length<=900000000)(hdg:Dg.dig 65536 l){n:Nat}(hv:Dg.vl 65536 l=n):Fn Tryz.prog 188 [dN l] (dN (hd n)):=hv▸LI l hl hdg
theorem lk{s:Bool}{n:Nat}(h:(hd n).length<=900000000){z:Int}(hz:Dg.iv s n=z):Fn Tryz.prog 150 [.sc (.bool s),dN (hd n)] (.nm z):=by
 have:=Fv s (hd n) h (jN n);rw[jF,hz]at this;exact this
theorem Af{z:Int}:Dg.iv (decide (z<0)) z.natAbs=z:=by unfold Dg.iv;split<;>rename_i h<;>simp at h<;>omega
theorem Vc{z:Int}:Dg.iv (!decide (z<0)) z.natAbs= -z:=by unfold Dg.iv;split<;>rename_i h<;>simp at h<;>omega
set_option maxRecDepth 20000
set_option maxHeartbeats 1000000
theorem Fh(z:Int)(hz:Hf z):Fn Tryz.prog 80 [.nm z] (.nm z):=by
 have D1:=iC hz;have M1:=lk (s:=decide (z<0)) (n:=z.natAbs) (by unfold Hf at hz;omega) Af;refine ba Tryz.func80 ai rfl rfl rfl fun X0=>?_;simp only[aO];refine zs2 ?_;refine CY ?_;refine zs2 ?_;refine zs35 ?_;refine uY ?_;refine fR ?_;refine fR ?_;refine sd ?_;refine wE ?_;refine zs2 ?_;exact⟨_,aA (k:=2) bf bA bz,.one (.cell 2 62) _ rfl (.cell 2 _ _ rfl rfl ai ai)⟩
theorem Di(z:Int)(hz:Hf z):Fn Tryz.prog 116 [.nm z] (.nm (-z)):=by
 have D1:=iC hz;have M1:=lk (s:=!decide (z<0)) (n:=z.natAbs) (by unfold Hf at hz;omega) Vc;refine ba Tryz.func116 ai rfl rfl rfl fun X0=>?_;simp only[aO];refine zs2 ?_;refine CY ?_;refine zs2 ?_;refine zs40 ?_;refine uY ?_;refine fR ?_;refine zs41 ?_;refine fR ?_;refine sd ?_;refine wE ?_;refine zs2 ?_;exact⟨_,aA (k:=2) bf bA bz,.one (.cell 2 62) _ rfl (.cell 2 _ _ rfl rfl ai ai)⟩
theorem oS(z:Int)(hz:Hf z):Fn Tryz.prog 106 [.nm z] (zI (sgn z)):=by
 have D1:=iC hz;refine ba Tryz.func106 ai rfl rfl rfl fun X0=>?_;simp only[aO];by_cases h0:z=0
 ·have hl:(hd z.natAbs).length=0:=(nk _).2 aa;refine ou ?_;refine kW ?_;refine zs5 ?_;refine tF ?_;refine ig ?_;refine qM nF (au aa) ?_;refine iZ ?_;rw[show sgn z=0 by unfold sgn;rw[ak h0]];exact⟨_,Sh.refl,.one (.tmp 2) _ rfl (.tmp 2 rfl)⟩
 ·have hl:(hd z.natAbs).length≠0:=fun e=>h0 (by have:=(nk _).1 e;omega);refine ou ?_;refine kW ?_;refine zs5 ?_;refine tF ?_;refine ig ?_;refine rX nF (aw aa) ?_;refine zs2 ?_;refine JH ?_;refine zs2 ?_;by_cases h1:z<0
  ·refine qM nF (au aa) ?_;refine iZ ?_;rw[show sgn z= -1 by unfold sgn;rw[ah aa,ak h1]];exact⟨_,Sh.refl,.one (.tmp 2) _ rfl (.tmp 2 rfl)⟩
  ·refine rX nF (aw aa) ?_;refine iZ ?_;rw[show sgn z=1 by unfold sgn;rw[ah aa,ah aa]];exact⟨_,Sh.refl,.one (.tmp 2) _ rfl (.tmp 2 rfl)⟩
end DW
end
section
open Go.RowKit
namespace DW
theorem Ss{b:Nat}(l:List Nat)(x:Nat):Dg.vl b (l++[x])=Dg.vl b l+b^l.length*x:=by rw[Dg.fm];simp[Dg.vl]
theorem qI{b:Nat}{l:List Nat}{x:Nat}(h:Dg.dig b l)(hx:x<b):Dg.dig b (l++[x]):=Dg.ns h fun y hy=>by
 rw[bU.1 hy];exact hx
theorem qx(l:List Nat)(x:Nat):(l++[x]).map hN=l.map hN++[hN x]:=by rw[db];rfl
theorem Mz{l:List Nat}{m:Nat}(h:65536^l.length*m<65536^4)(hm:0<m):l.length<4:=by
 have h1:65536^l.length<=65536^l.length*m:=jI _ hm;exact(Nat.pow_lt_pow_iff_right (by omega:1<65536)).1 (gi h1 h)
theorem Hw(l:List Nat)(m:Nat):Dg.vl 65536 (l++[m%65536])+65536^(l++[m%65536]).length*(m/65536)=Dg.vl 65536 l+65536^l.length*m:=by
 rw[Ss,cI,ff,ei,cF,oF,<-jc];congr 2;omega
set_option maxRecDepth 20000
set_option maxHeartbeats 1000000
theorem BD(z:Int)(hz: -9223372036854775808<=z/\z<=9223372036854775807):Fn Tryz.prog 81 [zI z] (.nm z):=by
 refine ba Tryz.func81 ai rfl rfl rfl fun X0=>?_;simp only[aO];have hb:z.natAbs<65536^4:=by rw[show(65536:Nat)^4=18446744073709551616 by rfl];omega
 refine zs2 ?_;refine gar ?_;refine Jd ?_;refine aX ?_;refine kd ?_;refine cn ?_;refine zs7 ?_;refine cT ?_;refine ay (da (t:=3) (k:=3) (T:=3) (wd:=1) fq rfl rfl cu) ?_;by_cases hn:z<0
 ·have M : ∀ l : List Nat, Dg.vl 65536 l = z.natAbs -> Dg.dig 65536 l -> l.length <= 4 -> Fn Tryz.prog 150 [.sc (.bool (decide (z < 0))), dN l] (.nm z) := fun l h1 h2 h3 => by
   have:=Fv (decide (z<0)) l aa h2;rwa[h1,Af]at this
  (refine ay (aq (sl':=[(0,zI (-((z.natAbs:Nat):Int))),(2, .opt 2 0),(3, .own 3),(4, .sc (.bool (decide (z<0))))]) (ow':=[(3,⟨3,1,[]⟩),(2,⟨62,2,[.nm 0]⟩)]) az aD) ?_)
  refine bc (fun r s=>∃l,Dg.dig 65536 l/\l.length<=4/\Dg.vl 65536 l+65536^l.length*r=z.natAbs/\r<=9223372036854775808/\s=⟨[(0,zI (-(r:Int))),(2, .opt 2 0),(3, .own 3),(4, .sc (.bool (decide (z<0))))],[(3,⟨3,1,l.map hN⟩),(2,⟨62,2,[.nm 0]⟩)]⟩) (m:=z.natAbs) ⟨[],fun _ h=>(by cases h),by simp,by simp[Dg.vl],by omega,rfl⟩ fun r s hs=>?_;obtain⟨l,h1,h2,h3,h4,rfl⟩:=hs;by_cases hr:r=0
  ·subst hr;refine qR ?_;refine ay (aA (k:=3) bf bA bz) ?_;refine cO ?_;refine zs46 ?_;refine gw ?_;refine zs2 ?_;exact⟨_,aA (k:=2) bf bA bz, .one (.cell 2 62) _ rfl (.cell 2 _ _ rfl rfl ai ai)⟩
  ·have hl:=Mz (l:=l) (m:=r) aa aa;have e1:(-(r:Int)).tmod 65536= -((r%65536:Nat):Int):=by rw[Int.neg_tmod];rfl
   have e2:(-(r:Int)).tdiv 65536= -((r/65536:Nat):Int):=by rw[Int.neg_tdiv];rfl
   have h5:=Hw l r;have h6:=qI h1 (eu r (by omega:0<65536));have h7:(l++[r%65536]).length=l.length+1:=by simp
   have h8:=qx l (r%65536);refine zs2 ?_;refine tL ?_;refine zs2 ?_;refine gP ?_;by_cases hd0:r%65536=0;all_goals
    refine zs2 ?_;refine cn ?_;refine Jb ?_;refine cT ?_;refine ja ?_;refine zs2 ?_
    (first|(refine gP ?_;(refine zs2 ?_);(refine gar ?_;refine zs4 ?_;(refine aL1 rfl rfl rfl (by(apply d_neg;(exact rfl);(focus((apply aE;(conv=>lhs;whnf);(first|done|exact rfl))));(omega))) ?_);refine zs6 ?_;refine aX ?_);(refine zs2 ?_))|(refine gQ ?_;(refine zs2 ?_)))
    (refine ay (aq (sl':=[(0,zI (-(r:Int))),(2, .opt 2 0),(3, .own 3),(4, .sc (.bool (decide (z<0)))),(5,hN (r%65536))]) (ow':=[(3,⟨3,1,l.map hN⟩),(2,⟨62,2,[.nm 0]⟩)]) az aD) ?_)
    refine zs2 ?_;refine yW ?_;refine zs2 ?_;refine yV ?_;refine zs2 ?_;simp only[nx,inB];exact⟨r/65536,_,by omega,(aq (sl':=[(0,zI (-((r/65536:Nat):Int))),(2, .opt 2 0),(3, .own 3),(4, .sc (.bool (decide (z<0))))]) (ow':=[(3,⟨3,1,l.map hN++[hN (r%65536)]⟩),(2,⟨62,2,[.nm 0]⟩)]) az aD),l++[r%65536],h6,by omega,by omega,by omega,by rw[h8]⟩
 ·have M : ∀ l : List Nat, Dg.vl 65536 l = z.natAbs -> Dg.dig 65536 l -> l.length <= 4 -> Fn Tryz.prog 150 [.sc (.bool (decide (z < 0))), dN l] (.nm z) := fun l h1 h2 h3 => by
   have:=Fv (decide (z<0)) l aa h2;rwa[h1,Af]at this
  (refine ay (aq (sl':=[(0,zI ((z.natAbs:Nat):Int)),(2, .opt 2 0),(3, .own 3),(4, .sc (.bool (decide (z<0))))]) (ow':=[(3,⟨3,1,[]⟩),(2,⟨62,2,[.nm 0]⟩)]) az aD) ?_)
  refine bc (fun r s=>∃l,Dg.dig 65536 l/\l.length<=4/\Dg.vl 65536 l+65536^l.length*r=z.natAbs/\r<=9223372036854775807/\s=⟨[(0,zI (r:Int)),(2, .opt 2 0),(3, .own 3),(4, .sc (.bool (decide (z<0))))],[(3,⟨3,1,l.map hN⟩),(2,⟨62,2,[.nm 0]⟩)]⟩) (m:=z.natAbs) ⟨[],fun _ h=>(by cases h),by simp,by simp[Dg.vl],by omega,rfl⟩ fun r s hs=>?_;obtain⟨l,h1,h2,h3,h4,rfl⟩:=hs;by_cases hr:r=0
  ·subst hr;refine qR ?_;refine ay (aA (k:=3) bf bA bz) ?_;refine cO ?_;refine zs46 ?_;refine gw ?_;refine zs2 ?_;exact⟨_,aA (k:=2) bf bA bz, .one (.cell 2 62) _ rfl (.cell 2 _ _ rfl rfl ai ai)⟩
  ·have hl:=Mz (l:=l) (m:=r) aa aa;have h5:=Hw l r;have h6:=qI h1 (eu r (by omega:0<65536));have h7:(l++[r%65536]).length=l.length+1:=by simp
   have h8:=qx l (r%65536);refine zs2 ?_;refine tL ?_;refine bw ?_;refine cn ?_;refine Jb ?_;refine cT ?_;refine ja ?_;refine bp ?_;refine yW ?_;refine zs2 ?_;refine yV ?_;refine zs2 ?_;simp only[nx,inB];exact⟨r/65536,_,by omega,(aq (sl':=[(0,hN (r/65536)),(2, .opt 2 0),(3, .own 3),(4, .sc (.bool (decide (z<0))))]) (ow':=[(3,⟨3,1,l.map hN++[hN (r%65536)]⟩),(2,⟨62,2,[.nm 0]⟩)]) az aD),l++[r%65536],h6,by omega,by omega,by omega,by rw[h8]⟩
end DW
end
end Go.Proofs.YtcgjmdpcplhanaaGreat
