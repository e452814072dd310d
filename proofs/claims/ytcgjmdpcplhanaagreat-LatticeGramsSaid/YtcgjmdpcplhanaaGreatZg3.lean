/- Lemmas for the law: H3 E1 E2 E3 -/
import Derived.Test.YtcgjmdpcplhanaaGreatZg2
namespace Go.Proofs.YtcgjmdpcplhanaaGreat
section
theorem zb7{p:Prop}(h:p:=by(first|(apply(xJ (q':=.i64));(exact rfl);(focus((apply au;(conv=>lhs;whnf);(first|done|exact rfl))));(kernel_rfl);(kernel_rfl);(focus(first|(apply pB;(try simp only[]);omega)|exact rfl)))|(apply(xJ (q':=.u32));(exact rfl);(focus((apply au;(conv=>lhs;whnf);(first|done|exact rfl))));(kernel_rfl);(kernel_rfl);(focus(first|(apply pB;(try simp only[]);omega)|exact rfl)))|(apply(xJ (q':=.u64));(exact rfl);(focus((apply au;(conv=>lhs;whnf);(first|done|exact rfl))));(kernel_rfl);(kernel_rfl);(focus(first|(apply pB;(try simp only[]);omega)|exact rfl))))):p:=h
theorem ae{p:Prop}(h:p:=by exact rfl):p:=h
theorem zs29{p q:Prop}(h:q)(f:Wq q->p:=by(intro hW;((first|refine cC rfl rfl rfl ae zb7 ae ae ?_|((try refine aB ?_);refine aL1 rfl rfl rfl zb7 ?_)));exact hW.out)):p:=f ⟨h⟩
theorem ot{p:Prop}(h:p:=by(apply uk;(exact rfl);(focus((apply au;(conv=>lhs;whnf);(first|done|exact rfl))));(exact rfl);(assumption);(exact rfl))):p:=h
theorem cO{p q:Prop}(h:q)(f:Wq q->p:=by(intro hW;(refine aL1 rfl rfl rfl ot ?_);exact hW.out)):p:=f ⟨h⟩
theorem zs2{p q:Prop}(h:q)(f:Wq q->p:=by(intro hW;(first|refine Gw ?_|refine J2 ?_|refine J4 ?_|refine Lc ?_|((simp only[nx,inB,ite_true,ite_false,↓reduceIte,Nat.reduceEqDiff,reduceCtorEq]);apply_assumption-exfalso));exact hW.out)):p:=f ⟨h⟩
theorem zb23{p:Prop}(h:p:=by(first|(apply Ib;(exact rfl);(focus((apply au;(conv=>lhs;whnf);(first|done|exact rfl))));(exact bw);(omega))|(apply cg;(exact rfl);(focus((apply au;(conv=>lhs;whnf);(first|done|exact rfl))));(exact bw);(exact rfl)))):p:=h
theorem bp{p:Prop}(h:p:=by(apply aJ;(conv=>lhs;whnf);(first|done|exact rfl|(apply aG;(first|(apply decide_eq_true;omega)|(apply decide_eq_false;omega)|assumption|(simp;done)))))):p:=h
theorem zs9{p q:Prop}(h:q)(f:Wq q->p:=by(intro hW;((first|(refine aLs rfl rfl rfl rfl ?_ ?_;(focus(apply aJ;(conv=>lhs;whnf);(first|done|exact rfl|(apply aG;(first|(apply decide_eq_true;omega)|(apply decide_eq_false;omega)|assumption|(simp;done)))))))|refine aLw rfl rfl rfl rfl bp zb23 ?_));exact hW.out)):p:=f ⟨h⟩
theorem zb1{p:Prop}(h:p:=by(first|(apply sJ;(exact rfl);(focus((apply au;(conv=>lhs;whnf);(first|done|exact rfl))));(exact rfl);(focus((first|exact eR|exact eP|exact eQ|exact wd_pt|exact rfl)));(exact rfl);(kernel_rfl);(kernel_rfl))|(apply iQ;(exact rfl);(focus((apply au;(conv=>lhs;whnf);(first|done|exact rfl))));(focus((repeat(first|exact List.mem_cons_self|refine List.mem_cons_of_mem _ ?_))));(exact iq);(exact rfl);(exact rfl);(focus((first|exact eR|exact eP|exact eQ|exact wd_pt|exact rfl)));(exact rfl);(kernel_rfl);(kernel_rfl))|(apply jy;(exact rfl);(focus((apply au;(conv=>lhs;whnf);(first|done|exact rfl))));(focus((repeat(first|exact List.mem_cons_self|refine List.mem_cons_of_mem _ ?_))));(exact rfl);(focus((first|exact iq|(apply nK;assumption)|assumption|exact rfl)));(exact rfl);(focus((first|exact eR|exact eP|exact eQ|exact wd_pt|exact rfl)));(exact rfl);(kernel_rfl);(kernel_rfl))|(apply jV;(exact rfl);(focus((apply au;(conv=>lhs;whnf);(first|done|exact rfl))));(focus((repeat(first|exact List.mem_cons_self|refine List.mem_cons_of_mem _ ?_))));(exact rfl);(focus(first|(apply dv;assumption)|exact rfl));(assumption);(kernel_rfl);(kernel_rfl)))):p:=h
theorem bq{p q:Prop}(h:q)(f:Wq q->p:=by(intro hW;((first|refine cC rfl rfl rfl ae zb1 ae ae ?_|((try refine aB ?_);refine aL1 rfl rfl rfl zb1 ?_)));exact hW.out)):p:=f ⟨h⟩
theorem vR{p:Prop}(h:p:=by(apply nT;(exact rfl);(focus((apply au;(conv=>lhs;whnf);(first|done|exact rfl)))))):p:=h
theorem zs6{p q:Prop}(h:q)(f:Wq q->p:=by(intro hW;(refine aL1 rfl rfl rfl vR ?_);exact hW.out)):p:=f ⟨h⟩
theorem zb4{p:Prop}(h:p:=by(first|(apply gu;(exact rfl);(focus((apply au;(conv=>lhs;whnf);(first|done|exact rfl))));(focus((apply au;(conv=>lhs;whnf);(first|done|exact rfl))));(kernel_rfl);(kernel_rfl);(omega);(focus((first|(apply get_map;assumption)|(apply get_own;assumption)))))|(apply en;(exact rfl);(focus((apply au;(conv=>lhs;whnf);(first|done|exact rfl))));(focus((apply au;(conv=>lhs;whnf);(first|done|exact rfl))));(focus((repeat(first|exact List.mem_cons_self|refine List.mem_cons_of_mem _ ?_))));(kernel_rfl);(kernel_rfl);(focus(first|omega|(simp;omega)));(focus(first|(apply dv;assumption)|exact rfl))))):p:=h
theorem dn{p q:Prop}(h:q)(f:Wq q->p:=by(intro hW;((first|refine cC rfl rfl rfl ae zb4 ae ae ?_|((try refine aB ?_);refine aL1 rfl rfl rfl zb4 ?_)));exact hW.out)):p:=f ⟨h⟩
theorem bD{p:Prop}(h:p:=by(repeat(first|exact qQ|(apply oT;(exact rfl))|(apply qR;(exact rfl))))):p:=h
theorem aS{p q:Prop}(h:q)(f:Wq q->p:=by(intro hW;(refine aL1 rfl rfl rfl zb1 ?_);exact hW.out)):p:=f ⟨h⟩
theorem qy{p:Prop}(h:p:=by(first|(apply Gp;(exact rfl);(focus((apply au;(conv=>lhs;whnf);(first|done|exact rfl))));(kernel_rfl);(kernel_rfl))|(apply nS;(exact rfl);(focus((apply au;(conv=>lhs;whnf);(first|done|exact rfl))));(kernel_rfl);(exact rfl);(kernel_rfl)))):p:=h
theorem mO{p q:Prop}(h:q)(f:Wq q->p:=by(intro hW;(refine aL1 rfl rfl rfl qy ?_);exact hW.out)):p:=f ⟨h⟩
theorem Ax{p q:Prop}(h:q)(f:Wq q->p:=by(intro hW;((refine gar ?_;refine mO ?_;refine aS ?_;refine af ?_));exact hW.out)):p:=f ⟨h⟩
theorem zb2{p:Prop}(h:p:=by(first|(apply K8;(exact rfl);(focus((apply au;(conv=>lhs;whnf);(first|done|exact rfl))));(kernel_rfl))|(apply BF;(exact rfl);(focus((apply au;(conv=>lhs;whnf);(first|done|exact rfl))));(focus((repeat(first|exact List.mem_cons_self|refine List.mem_cons_of_mem _ ?_))));(kernel_rfl))|(apply d_len;(exact rfl);(focus((apply au;(conv=>lhs;whnf);(first|done|exact rfl))));(kernel_rfl))|(apply Ei;(exact rfl);(focus((apply au;(conv=>lhs;whnf);(first|done|exact rfl))));(focus((repeat(first|exact List.mem_cons_self|refine List.mem_cons_of_mem _ ?_))));(kernel_rfl))|(apply d_len0;(exact rfl);(focus((apply au;(conv=>lhs;whnf);(first|done|exact rfl))));(kernel_rfl)))):p:=h
theorem zs5{p q:Prop}(h:q)(f:Wq q->p:=by(intro hW;(refine aL1 rfl rfl rfl zb2 ?_);exact hW.out)):p:=f ⟨h⟩
theorem mU{p:Prop}(h:p:=by(apply KZ;(exact rfl);(focus((apply au;(conv=>lhs;whnf);(first|done|exact rfl)))))):p:=h
theorem zs4{p q:Prop}(h:q)(f:Wq q->p:=by(intro hW;(refine aL1 rfl rfl rfl mU ?_);exact hW.out)):p:=f ⟨h⟩
theorem AJ{p:Prop}(h:p:=by(apply cg;(exact rfl);(focus((apply au;(conv=>lhs;whnf);(first|done|exact rfl))));(focus((apply au;(conv=>lhs;whnf);(first|done|exact rfl))));(exact rfl))):p:=h
theorem lO{p q:Prop}(h:q)(f:Wq q->p:=by(intro hW;(refine aL1 rfl rfl rfl AJ ?_);exact hW.out)):p:=f ⟨h⟩
theorem qz{p:Prop}(h:p:=by(first|(apply BD;(exact rfl);(focus((apply au;(conv=>lhs;whnf);(first|done|exact rfl))));(kernel_rfl);(kernel_rfl))|(apply nS;(exact rfl);(focus((apply au;(conv=>lhs;whnf);(first|done|exact rfl))));(kernel_rfl);(exact rfl);(kernel_rfl)))):p:=h
theorem qs{p q:Prop}(h:q)(f:Wq q->p:=by(intro hW;(refine aL1 rfl rfl rfl qz ?_);exact hW.out)):p:=f ⟨h⟩
theorem iu{p q:Prop}(h:q)(f:Wq q->p:=by(intro hW;((refine gar ?_;refine zs4 ?_;refine qs ?_;refine aS ?_;refine zs5 ?_;refine lO ?_;refine af ?_));exact hW.out)):p:=f ⟨h⟩
theorem bz{p:Prop}(h:p:=by(apply au;(conv=>lhs;whnf);(first|done|exact rfl))):p:=h
theorem aZ{p:Prop}(h:p:=by(repeat(first|exact List.mem_cons_self|refine List.mem_cons_of_mem _ ?_))):p:=h
theorem qv{p:Prop}(h:p:=by(repeat(first|exact IE|apply IG|(apply EM;(exact rfl))))):p:=h
theorem qx{p:Prop}(h:p:=by first|exact rfl|(apply wK;intro _;exact rfl)|(apply Jo;apply wK;intro _;exact rfl)|(apply nw_drop;apply wK;intro _;exact rfl)|(simp[D.nw];done)):p:=h
theorem ta{p q:Prop}(h:q)(f:Wq q->p:=by(intro hW;((refine kU rfl rfl rfl rfl bz bz aZ ae qx aa aa (by(simp only[List.length_map,List.length_cons,List.length_nil];omega)) bD qv ?_));exact hW.out)):p:=f ⟨h⟩
theorem zb24{p:Prop}(h:p:=by(apply Ig;(exact rfl);(focus((apply au;(conv=>lhs;whnf);(first|done|exact rfl))));(exact rfl);(focus((first|exact eR|exact eP|exact eQ|exact wd_pt|exact rfl)));(kernel_rfl);(kernel_rfl);(exact rfl);(exact rfl))):p:=h
theorem jI{p q:Prop}(h:q)(f:Wq q->p:=by(intro hW;(refine aL1 rfl rfl rfl zb24 ?_);exact hW.out)):p:=f ⟨h⟩
theorem mP{p q:Prop}(h:q)(f:Wq q->p:=by(intro hW;((refine gar ?_;refine zs4 ?_;refine zs4 ?_;refine jI ?_;refine ta ?_;refine zs6 ?_;refine af ?_));exact hW.out)):p:=f ⟨h⟩
theorem zs3{p q:Prop}(h:q)(f:Wq q->p:=by(intro hW;(refine aL1 rfl rfl rfl (by(apply nT;(exact rfl);(exact pM))) ?_);exact hW.out)):p:=f ⟨h⟩
theorem bK{p q:Prop}(h:q)(f:Wq q->p:=by(intro hW;((refine gar ?_;refine zs3 ?_;refine af ?_));exact hW.out)):p:=f ⟨h⟩
theorem cr{p:Prop}(h:p:=by(apply aJ;(conv=>lhs;whnf);(first|done|exact rfl))):p:=h
theorem zb30{p:Prop}(h:p:=by first|with_reducible rfl|exact wz (by omega)|exact wz (by simp)|(apply wz;omega)|(apply aG;(first|(apply decide_eq_false;omega)|(apply decide_eq_true;omega)|(simp<;>omega)))):p:=h
theorem an{p:Prop}(h:p:=by(repeat(first|exact IS|refine EY cr zb30 ?_))):p:=h
theorem av{p q:Prop}(h:q)(f:Wq q->p:=by(intro hW;((apply kS;(focus(first|(apply au;(conv=>lhs;whnf);(first|done|exact rfl))|with_reducible exact bw|with_reducible exact gg|with_reducible exact pM|exact op_zero));(focus(first|with_reducible rfl|(apply decide_eq_true;omega)|assumption|(simp<;>omega)))));exact hW.out)):p:=f ⟨h⟩
theorem zb22{p:Prop}(h:p:=by(first|(apply cg;(exact rfl);(focus((apply au;(conv=>lhs;whnf);(first|done|exact rfl))));(exact bw);(exact rfl))|(apply Ih;(exact rfl);(focus((apply au;(conv=>lhs;whnf);(first|done|exact rfl))));(exact bw);(kernel_rfl)))):p:=h
theorem td{p q:Prop}(h:q)(f:Wq q->p:=by(intro hW;(refine aL1 rfl rfl rfl zb22 ?_);exact hW.out)):p:=f ⟨h⟩
theorem zs44{p q:Prop}(h:q)(f:Wq q->p:=by(intro hW;(refine aL1 rfl rfl rfl (by(first|(apply cg;(exact rfl);(focus((apply au;(conv=>lhs;whnf);(first|done|exact rfl))));(exact bw);(exact rfl))|(apply Ic;(exact rfl);(focus((apply au;(conv=>lhs;whnf);(first|done|exact rfl))));(exact bw);(kernel_rfl)))) ?_);exact hW.out)):p:=f ⟨h⟩
theorem eO{p q:Prop}(h:q)(f:Wq q->p:=by(intro hW;((refine gar ?_;refine zs4 ?_;refine zs44 ?_;refine af ?_));exact hW.out)):p:=f ⟨h⟩
theorem ou{p:Prop}(h:p:=by(apply jo;(exact rfl);(focus((apply au;(conv=>lhs;whnf);(first|done|exact rfl))));(focus((apply au;(conv=>lhs;whnf);(first|done|exact rfl))));(exact rfl);(exact rfl);(assumption);(exact rfl))):p:=h
theorem gy{p q:Prop}(h:q)(f:Wq q->p:=by(intro hW;((first|refine cC rfl rfl rfl ae ou ae ae ?_|((try refine aB ?_);refine aL1 rfl rfl rfl ou ?_)));exact hW.out)):p:=f ⟨h⟩
theorem AB{p:Prop}(h:p:=by rw[HB5.out];simp;omega):p:=h
theorem zb9{p:Prop}(h:p:=by(first|(apply KY;(exact rfl);(focus((apply au;(conv=>lhs;whnf);(first|done|exact rfl))));(exact bw);(exact rfl);(exact rfl);(focus(apply pB;(try simp only[]);omega)))|(apply d_quoP;(exact rfl);(focus((apply au;(conv=>lhs;whnf);(first|done|exact rfl))));(exact bw);(omega))|(apply d_quo;(exact rfl);(focus((apply au;(conv=>lhs;whnf);(first|done|exact rfl))));(exact bw);(omega))|(apply Eh;(exact rfl);(focus((apply au;(conv=>lhs;whnf);(first|done|exact rfl))));(exact bw);(focus(first|omega|decide))))):p:=h
theorem zs52{p q:Prop}(h:q)(f:Wq q->p:=by(intro hW;(refine aL1 rfl rfl rfl zb9 ?_);exact hW.out)):p:=f ⟨h⟩
theorem ry{p q:Prop}(h:q)(f:Wq q->p:=by(intro hW;((refine gar ?_;refine zs4 ?_;refine zs52 ?_;refine zs6 ?_;refine af ?_));exact hW.out)):p:=f ⟨h⟩
theorem qw{p:Prop}(h:p:=by(apply cg;(exact rfl);(focus((apply au;(conv=>lhs;whnf);(first|done|exact rfl))));(exact bw);(exact rfl))):p:=h
theorem zs7{p q:Prop}(h:q)(f:Wq q->p:=by(intro hW;(refine aL1 rfl rfl rfl qw ?_);exact hW.out)):p:=f ⟨h⟩
theorem zs46{p q:Prop}(h:q)(f:Wq q->p:=by(intro hW;(refine aL1 rfl rfl rfl (by(apply jo;(exact rfl);(focus((apply au;(conv=>lhs;whnf);(first|done|exact rfl))));(focus((apply au;(conv=>lhs;whnf);(first|done|exact rfl))));(exact rfl);(exact rfl);(focus((first|exact M l (by omega) h1 h2)));(exact rfl))) ?_);exact hW.out)):p:=f ⟨h⟩
theorem aw{p:Prop}(h:p:=by(repeat(first|exact EX|(apply Cl;(focus(repeat(first|exact List.mem_cons_self|refine List.mem_cons_of_mem _ ?_))))))):p:=h
theorem az{p q:Prop}(h:q)(f:Wq q->p:=by(intro hW;((apply lK;(focus(first|(apply au;(conv=>lhs;whnf);(first|done|exact rfl))|with_reducible exact bw|with_reducible exact gg|with_reducible exact pM|exact op_zero));(focus(first|with_reducible rfl|(apply decide_eq_false;omega)|assumption|(simp<;>omega)))));exact hW.out)):p:=f ⟨h⟩
theorem vK{p q:Prop}(h:q)(f:Wq q->p:=by(intro hW;((first|(refine aLs rfl rfl rfl rfl ?_ ?_;(focus(apply aJ;(conv=>lhs;whnf);(first|done|exact rfl|(apply aG;(first|(apply decide_eq_true;omega)|(apply decide_eq_false;omega)|assumption|(simp;done)))))))|refine aLw rfl rfl rfl rfl bp zb22 ?_));exact hW.out)):p:=f ⟨h⟩
theorem zs16{p q:Prop}(h:q)(f:Wq q->p:=by(intro hW;((refine kU rfl rfl rfl rfl bz bz aZ ae qx aa aa (by(first|omega|(simp;done)|(simp;omega))) bD qv ?_));exact hW.out)):p:=f ⟨h⟩
theorem zs15{p q:Prop}(h:q)(f:Wq q->p:=by(intro hW;(refine aL1 rfl rfl rfl (by(apply BE;(exact rfl);(focus((apply au;(conv=>lhs;whnf);(first|done|exact rfl))));(focus((apply au;(conv=>lhs;whnf);(first|done|exact rfl))));(kernel_rfl);(kernel_rfl);(focus(first|exact Int.toNat_natCast _|exact rfl));(focus(first|omega|(simp;omega))))) ?_);exact hW.out)):p:=f ⟨h⟩
theorem zs14{p q:Prop}(h:q)(f:Wq q->p:=by(intro hW;((refine zO (k:=18) (wd:=1) (T:=Tryz.prog.elem 40) rfl rfl rfl rfl aa aa ae ae bD ?_));exact hW.out)):p:=f ⟨h⟩
theorem G6{p q:Prop}(h:q)(f:Wq q->p:=by(intro hW;((refine gar ?_;refine zs14 ?_;refine zs4 ?_;refine zs4 ?_;refine zs15 ?_;refine zs16 ?_;refine zs6 ?_;refine af ?_));exact hW.out)):p:=f ⟨h⟩
theorem cE{p:Prop}(h:p:=by(first|exact eR|exact eP|exact eQ|exact wd_pt|exact rfl)):p:=h
theorem zs34{p q:Prop}(h:q)(f:Wq q->p:=by(intro hW;((refine dK (k:=2) (z:=(.agg #[.bool false,.slice none 0 0])) (d:=(.nm 0)) rfl rfl rfl rfl rfl aa ae ae cE ae ae bD ?_));exact hW.out)):p:=f ⟨h⟩
theorem zs35{p q:Prop}(h:q)(f:Wq q->p:=by(intro hW;((first|(apply ao 5;(focus kernel_rfl);(decide+kernel))|(apply ao 4;(focus kernel_rfl);(decide+kernel))|(apply ao 3;(focus kernel_rfl);(decide+kernel))|(apply ao 2;(focus kernel_rfl);(decide+kernel))|(apply ao 1;(focus kernel_rfl);(decide+kernel)));simp only[List.take_succ_cons,List.take_zero,List.drop_succ_cons,List.drop_zero]);exact hW.out)):p:=f ⟨h⟩
theorem aR{p q:Prop}(h:q)(f:Wq q->p:=by(intro hW;((first|refine cC rfl rfl rfl ae mU ae ae ?_|((try refine aB ?_);refine aL1 rfl rfl rfl mU ?_)));exact hW.out)):p:=f ⟨h⟩
theorem iX{p:Prop}(h:p:=by(first|(apply au;(conv=>lhs;whnf);(first|done|exact rfl))|with_reducible exact bw|with_reducible exact gg|with_reducible exact pM|exact op_zero)):p:=h
theorem zb63{p:Prop}(h:p:=by(apply nT;(exact rfl);(exact bw))):p:=h
theorem fG{p q:Prop}(h:q)(f:Wq q->p:=by(intro hW;(refine aL1 rfl rfl rfl zb63 ?_);exact hW.out)):p:=f ⟨h⟩
theorem aH{p q:Prop}(h:q)(f:Wq q->p:=by(intro hW;((refine gar ?_;refine fG ?_;refine af ?_));exact hW.out)):p:=f ⟨h⟩
theorem zb29{p:Prop}(h:p:=by(apply K7;(exact rfl);(focus((apply au;(conv=>lhs;whnf);(first|done|exact rfl))));(focus((apply au;(conv=>lhs;whnf);(first|done|exact rfl))));(kernel_rfl);(kernel_rfl))):p:=h
theorem zs8{p q:Prop}(h:q)(f:Wq q->p:=by(intro hW;((first|(refine aLs rfl rfl rfl rfl ?_ ?_;(focus(apply aJ;(conv=>lhs;whnf);(first|done|exact rfl|(apply aG;(first|(apply decide_eq_true;omega)|(apply decide_eq_false;omega)|assumption|(simp;done)))))))|refine aLw rfl rfl rfl rfl bp mU ?_));exact hW.out)):p:=f ⟨h⟩
theorem bB{p:Prop}(h:p:=by(repeat(first|exact Fg|(apply Cx;(exact rfl))|apply Fh|apply I4))):p:=h
theorem gA{p q:Prop}(h:q)(f:Wq q->p:=by(intro hW;(refine aL1 rfl rfl rfl (by(apply Gm;(exact rfl);(focus((apply au;(conv=>lhs;whnf);(first|done|exact rfl))));(exact rfl))) ?_);exact hW.out)):p:=f ⟨h⟩
theorem jq{p q:Prop}(h:q)(f:Wq q->p:=by(intro hW;((refine gar ?_;refine gA ?_;refine fG ?_;refine af ?_));exact hW.out)):p:=f ⟨h⟩
theorem lR{p:Prop}(h:p:=by first|exact Nat.zero_lt_one|omega|(simp;omega)):p:=h
theorem lS{p:Prop}(h:p:=by(repeat(first|exact set_nil|apply I6|apply I7|(apply Fj;(exact rfl))))):p:=h
theorem dC{p q:Prop}(h:q)(f:Wq q->p:=by(intro hW;((refine kg (i:=0) rfl rfl rfl bz bz aZ ae lR ae cE ae aa lS ?_));exact hW.out)):p:=f ⟨h⟩
theorem zb10{p:Prop}(h:p:=by(first|(apply KX;(exact rfl);(focus((apply au;(conv=>lhs;whnf);(first|done|exact rfl))));(exact bw);(exact rfl);(exact rfl))|(apply d_remP;(exact rfl);(focus((apply au;(conv=>lhs;whnf);(first|done|exact rfl))));(exact bw);(omega))|(apply Eg;(exact rfl);(focus((apply au;(conv=>lhs;whnf);(first|done|exact rfl))));(exact bw);(focus(first|omega|decide))))):p:=h
theorem zX{p q:Prop}(h:q)(f:Wq q->p:=by(intro hW;(refine aL1 rfl rfl rfl zb10 ?_);exact hW.out)):p:=f ⟨h⟩
theorem vJ{p q:Prop}(h:q)(f:Wq q->p:=by(intro hW;((first|refine cC rfl rfl rfl ae qz ae ae ?_|((try refine aB ?_);refine aL1 rfl rfl rfl qz ?_)));exact hW.out)):p:=f ⟨h⟩
theorem kj{p q:Prop}(h:q)(f:Wq q->p:=by(intro hW;((first|refine cC rfl rfl rfl ae ot ae ae ?_|((try refine aB ?_);refine aL1 rfl rfl rfl ot ?_)));exact hW.out)):p:=f ⟨h⟩
theorem ko{p q:Prop}(h:q)(f:Wq q->p:=by(intro hW;((first|refine cC rfl rfl rfl ae vR ae ae ?_|((try refine aB ?_);refine aL1 rfl rfl rfl vR ?_)));exact hW.out)):p:=f ⟨h⟩
theorem zb0{p:Prop}(h:p:=by(first|(apply sJ;(exact rfl);(focus((apply au;(conv=>lhs;whnf);(first|done|exact rfl))));(exact rfl);(focus((first|exact eR|exact eP|exact eQ|exact wd_pt|exact rfl)));(exact rfl);(kernel_rfl);(kernel_rfl))|(apply iQ;(exact rfl);(focus((apply au;(conv=>lhs;whnf);(first|done|exact rfl))));(focus((repeat(first|exact List.mem_cons_self|refine List.mem_cons_of_mem _ ?_))));(exact iq);(exact rfl);(exact rfl);(focus((first|exact eR|exact eP|exact eQ|exact wd_pt|exact rfl)));(exact rfl);(kernel_rfl);(kernel_rfl))|(apply jy;(exact rfl);(focus((apply au;(conv=>lhs;whnf);(first|done|exact rfl))));(focus((repeat(first|exact List.mem_cons_self|refine List.mem_cons_of_mem _ ?_))));(exact rfl);(focus((first|exact iq|(apply nK;assumption)|assumption|(apply mC;(focus assumption);(focus assumption))|exact rfl)));(exact rfl);(focus((first|exact eR|exact eP|exact eQ|exact wd_pt|exact rfl)));(exact rfl);(kernel_rfl);(kernel_rfl))|(apply jV;(exact rfl);(focus((apply au;(conv=>lhs;whnf);(first|done|exact rfl))));(focus((repeat(first|exact List.mem_cons_self|refine List.mem_cons_of_mem _ ?_))));(exact rfl);(focus(first|(apply dv;assumption)|exact rfl));(assumption);(kernel_rfl);(kernel_rfl)))):p:=h
theorem zs18{p q:Prop}(h:q)(f:Wq q->p:=by(intro hW;((first|(refine aLs rfl rfl rfl rfl ?_ ?_;(focus(apply aJ;(conv=>lhs;whnf);(first|done|exact rfl|(apply aG;(first|(apply decide_eq_true;omega)|(apply decide_eq_false;omega)|assumption|(simp;done)))))))|refine aLw rfl rfl rfl rfl bp zb0 ?_));exact hW.out)):p:=f ⟨h⟩
theorem zb6{p:Prop}(h:p:=by(first|(apply xG;(exact rfl);(focus((apply au;(conv=>lhs;whnf);(first|done|exact rfl))));(focus(first|exact rfl|(apply decide_eq_true;omega)|assumption|(simp;done)));(focus((apply au;(conv=>lhs;whnf);(first|done|exact rfl)))))|(apply xH;(exact rfl);(focus((apply au;(conv=>lhs;whnf);(first|done|exact rfl))));(focus(first|exact rfl|(apply decide_eq_false;omega)|assumption|(simp;done)));(exact gg))|(apply d_pick;(exact rfl);(focus((apply au;(conv=>lhs;whnf);(first|done|exact rfl))));(focus((apply au;(conv=>lhs;whnf);(first|done|exact rfl))));(exact gg);(exact rfl)))):p:=h
theorem gB{p q:Prop}(h:q)(f:Wq q->p:=by(intro hW;(refine aL1 rfl rfl rfl zb6 ?_);exact hW.out)):p:=f ⟨h⟩
theorem zb3{p:Prop}(h:p:=by(first|(apply gu;(exact rfl);(focus((apply au;(conv=>lhs;whnf);(first|done|exact rfl))));(focus((apply au;(conv=>lhs;whnf);(first|done|exact rfl))));(kernel_rfl);(kernel_rfl);(omega);(focus((first|(apply mC;(focus assumption);(focus assumption))|(apply get_map;assumption)|(apply get_own;assumption)))))|(apply en;(exact rfl);(focus((apply au;(conv=>lhs;whnf);(first|done|exact rfl))));(focus((apply au;(conv=>lhs;whnf);(first|done|exact rfl))));(focus((repeat(first|exact List.mem_cons_self|refine List.mem_cons_of_mem _ ?_))));(kernel_rfl);(kernel_rfl);(focus(first|omega|(simp;omega)));(focus(first|(apply dv;assumption)|exact rfl))))):p:=h
theorem zs17{p q:Prop}(h:q)(f:Wq q->p:=by(intro hW;((first|(refine aLs rfl rfl rfl rfl ?_ ?_;(focus(apply aJ;(conv=>lhs;whnf);(first|done|exact rfl|(apply aG;(first|(apply decide_eq_true;omega)|(apply decide_eq_false;omega)|assumption|(simp;done)))))))|refine aLw rfl rfl rfl rfl bp zb3 ?_));exact hW.out)):p:=f ⟨h⟩
theorem G5{p q:Prop}(h:q)(f:Wq q->p:=by(intro hW;((refine gar ?_;refine zs4 ?_;refine zs7 ?_;refine zs4 ?_;refine zs8 ?_;refine zs8 ?_;refine zs9 ?_;refine zs17 ?_;refine zs18 ?_;refine vK ?_;refine gB ?_;refine af ?_));exact hW.out)):p:=f ⟨h⟩
theorem cP{p q:Prop}(h:q)(f:Wq q->p:=by(intro hW;((try refine aB ?_);refine af ?_);exact hW.out)):p:=f ⟨h⟩
theorem zY{p q:Prop}(h:q)(f:Wq q->p:=by(intro hW;(refine aL1 rfl rfl rfl (by(first|(apply Ii;(exact rfl);(focus((apply au;(conv=>lhs;whnf);(first|done|exact rfl))));(exact bw);(omega))|(apply cg;(exact rfl);(focus((apply au;(conv=>lhs;whnf);(first|done|exact rfl))));(exact bw);(exact rfl)))) ?_);exact hW.out)):p:=f ⟨h⟩
theorem aX{p q:Prop}(h:q)(f:Wq q->p:=by(intro hW;((refine gar ?_;refine zs4 ?_;refine zY ?_;refine zs6 ?_;refine af ?_));exact hW.out)):p:=f ⟨h⟩
theorem zs19{p q:Prop}(h:q)(f:Wq q->p:=by(intro hW;(refine aL1 rfl rfl rfl zb23 ?_);exact hW.out)):p:=f ⟨h⟩
theorem pA{p q:Prop}(h:q)(f:Wq q->p:=by(intro hW;((refine gar ?_;refine zs4 ?_;refine zs19 ?_;refine zs6 ?_;refine af ?_));exact hW.out)):p:=f ⟨h⟩
theorem AI{p:Prop}(h:p:=by(apply Gj;(exact rfl);(focus((apply au;(conv=>lhs;whnf);(first|done|exact rfl)))))):p:=h
theorem zs41{p q:Prop}(h:q)(f:Wq q->p:=by(intro hW;((first|refine cC rfl rfl rfl ae AI ae ae ?_|((try refine aB ?_);refine aL1 rfl rfl rfl AI ?_)));exact hW.out)):p:=f ⟨h⟩
theorem bA{p:Prop}(h:p:=by(repeat(first|exact drop_nil|apply Gi|(apply Ed;(exact rfl))))):p:=h
theorem zs40{p q:Prop}(h:q)(f:Wq q->p:=by(intro hW;((first|(apply ao 6;(focus kernel_rfl);(decide+kernel))|(apply ao 5;(focus kernel_rfl);(decide+kernel))|(apply ao 4;(focus kernel_rfl);(decide+kernel))|(apply ao 3;(focus kernel_rfl);(decide+kernel))|(apply ao 2;(focus kernel_rfl);(decide+kernel))|(apply ao 1;(focus kernel_rfl);(decide+kernel)));simp only[List.take_succ_cons,List.take_zero,List.drop_succ_cons,List.drop_zero]);exact hW.out)):p:=f ⟨h⟩
theorem te{p q:Prop}(h:q)(f:Wq q->p:=by(intro hW;(((try refine aB ?_);(refine kg (i:=0) rfl rfl rfl bz bz aZ ae lR ae cE ae aa lS ?_)));exact hW.out)):p:=f ⟨h⟩
theorem kY{p q:Prop}(h:q)(f:Wq q->p:=by(intro hW;((refine gar ?_;refine zs4 ?_;refine cO ?_;refine zs6 ?_;refine af ?_));exact hW.out)):p:=f ⟨h⟩
theorem vL{p q:Prop}(h:q)(f:Wq q->p:=by(intro hW;((first|(refine aLs rfl rfl rfl rfl ?_ ?_;(focus(apply aJ;(conv=>lhs;whnf);(first|done|exact rfl|(apply aG;(first|(apply decide_eq_true;omega)|(apply decide_eq_false;omega)|assumption|(simp;done)))))))|refine aLw rfl rfl rfl rfl bp zb4 ?_));exact hW.out)):p:=f ⟨h⟩
theorem vp{p q:Prop}(h:q)(f:Wq q->p:=by(intro hW;((refine gar ?_;refine gA ?_;refine zs34 ?_;refine af ?_));exact hW.out)):p:=f ⟨h⟩
theorem eM{p q:Prop}(h:q)(f:Wq q->p:=by(intro hW;((refine gar ?_;refine zs4 ?_;refine zs7 ?_;refine af ?_));exact hW.out)):p:=f ⟨h⟩
theorem mQ{p q:Prop}(h:q)(f:Wq q->p:=by(intro hW;((first|(refine aLs rfl rfl rfl rfl ?_ ?_;(focus(apply aJ;(conv=>lhs;whnf);(first|done|exact rfl|(apply aG;(first|(apply decide_eq_true;omega)|(apply decide_eq_false;omega)|assumption|(simp;done)))))))|refine aLw rfl rfl rfl rfl bp zb1 ?_));exact hW.out)):p:=f ⟨h⟩
theorem og{p q:Prop}(h:q)(f:Wq q->p:=by(intro hW;((first|refine cC rfl rfl rfl ae qy ae ae ?_|((try refine aB ?_);refine aL1 rfl rfl rfl qy ?_)));exact hW.out)):p:=f ⟨h⟩
end
section
open Go.RowKit Go.BigFrame
attribute [local go_sem ↓] Go.wp_at_zero Go.wp_at_succ
def pk:List Nat->List Nat
 |[]=>[]
 |[x]=>[x]
 |x::y::l=>(x+y*65536)::pk l
theorem Hu:∀l:List Nat,Dg.vl B32 (pk l)=Dg.vl B16 l
 |[]=>rfl
 |[x]=>rfl
 |x::y::l=>by
  simp only[pk,Dg.cF,Hu l,B16,B32];omega
theorem C5:∀{l:List Nat},Dg.dig B16 l->Dg.dig B32 (pk l)
 |[],_=>fun x h=>by cases h
 |[x],h=>fun y hy=>by
  simp only[pk,List.mem_singleton]at hy;have:=h x List.mem_cons_self;subst hy;show y<4294967296;have:y<65536:=this;omega
 |x::y::l,h=>by
  have h1:=Dg.ig h;have h2:=Dg.ig h1.2;have h3:=C5 h2.2;have h4:x<65536:=h1.1;have h5:y<65536:=h2.1;intro z hz;simp only[pk,List.mem_cons]at hz;rcases hz with rfl|hz
  ·show x+y*65536<4294967296;omega
  ·exact h3 z hz
theorem Hv:∀{l:List Nat},l≠[]->pk l≠[]
 |[],h=>absurd rfl h
 |[x],_=>by simp[pk]
 |x::y::l,_=>by simp[pk]
theorem yU:∀{l:List Nat},l.getLast?≠some 0->(pk l).getLast?≠some 0
 |[],h=>h
 |[x],h=>h
 |x::y::[],h=>by
  simp[pk]at h⊢;omega
 |x::y::z::l,h=>by
  have h1:(z::l).getLast?≠some 0:=by simpa using h
  have h2:=yU h1;have h3:pk (z::l)≠[]:=Hv (by simp);simp only[pk];rw[List.getLast?_cons];obtain⟨u,hu⟩:∃u,(pk (z::l)).getLast?=some u:=by
   cases h4:(pk (z::l)).getLast? with
   |none=>rw[List.getLast?_eq_none_iff]at h4;exact absurd h4 h3
   |some u=>exact⟨u,rfl⟩
  rw[hu]at h2⊢;simpa using h2
theorem pk_nf{l:List Nat}(h:Dg.NF B16 l):Dg.NF B32 (pk l):=⟨C5 h.dg,yU h.nz⟩
theorem yT:∀{l:List Nat} {k x:Nat},l[2*k]?=some x->pk (l.take (2*k+2))=pk (l.take (2*k))++[x+l.getD (2*k+1) 0*65536]
 |[],k,x,h=>by simp at h
 |[y],0,x,h=>by
  simp at h;subst h;simp[pk]
 |[y],k+1,x,h=>by simp at h
 |y::z::l,0,x,h=>by
  simp at h;subst h;simp[pk]
 |y::z::l,k+1,x,h=>by
  have e:2*(k+1)=2*k+1+1:=by omega
  rw[e]at h⊢;have h1:l[2*k]?=some x:=by simpa using h
  have h2:=yT h1;simp only[List.take_succ_cons,pk,List.cons_append,List.getD_cons_succ,h2]
theorem Fz{l:List Nat}{k x:Nat}(hk:k%2=0)(h:l[k]?=some x):pk (l.take (k+2))=pk (l.take k)++[x+l.getD (k+1) 0*65536]:=by
 obtain⟨j,rfl⟩:∃j,k=2*j:=⟨k/2,by omega⟩;exact yT h
theorem Ky{l:List Nat}{k:Nat}(h:l.length<=k):pk (l.take k)=pk l:=by rw[List.take_of_length_le h]
theorem C4:∀l:List Nat,(pk l).length<=l.length
 |[]=>Nat.le_refl _
 |[x]=>Nat.le_refl _
 |x::y::l=>by have:=C4 l;simp[pk];omega
theorem de.CD{w:World}{base:Nat}{v:Value}{l:List Nat}(h:de w base v l){g o:Nat}(u:Value)(hg:g<base):de (w.setCell ⟨g,o,none⟩ u) base v l:=by
 refine World.ownsRow.kept h (fR w g o u) ?_
 cases e:v.ownBlock with
 |none=>exact .inl rfl
 |some k=>
  right;intro e2;have:=(World.ownsRow.lt h k e).1;cases e2;omega
set_option maxRecDepth 10000 in
set_option maxHeartbeats 8000000 in
theorem DG(s:Bool)(l:List Nat)(v:Value)(hl:l.length<=2000000000000)(hd:Dg.dig B16 l)(w:World)(TR0:∀W,Below w.heap.size w W->Calls Tryz.prog 188 #[v] W fun e w'=>HRes w' e (Dg.vl B16 l)/\Below W.heap.size W w'):
  Calls Tryz.prog 150 #[.bool s,v] w fun e w'=>(∃x,e= .returned (.agg #[.bool x.s,.slice x.a x.n x.cap])/\IZ w' x (Dg.iv s (Dg.vl B16 l)))/\Below w.heap.size w w':=by
 have TR:=Lib.hid TR0;clear TR0;have hN:=Dg.bg hd;have LB:Hid (∀m:List Nat,Dg.NF B16 m->Dg.vl B16 m=Dg.vl B16 l->m.length<=2000000000000):=fun m h1 h2=>by
  rcases Nat.lt_or_ge l.length m.length with h3|h3
  ·obtain⟨k,hk⟩:∃k,m.length=k+1:=⟨m.length-1,by omega⟩;have h4:=Dg.iE hk h1;have h5:=Dg.bg hd;have h6:B16^l.length<=B16^k:=Nat.pow_le_pow_right (by decide) (by omega);omega
  ·omega
 generalize hNe:Dg.vl B16 l=N at*;clear hNe hN hd;obtain⟨d,hd⟩:∃d,d=decide (N≠0):=⟨_,rfl⟩;have fin:∀(c:Bool),(c=(s&&d))->∀(m:List Nat) (w':World) (v1:Value) (base:Nat),Dg.NF B16 m->Dg.vl B16 m=N->de w' base v1 (pk m)->∃x:IV,v1= .slice x.a x.n x.cap/\x.s=c/\IZ w' x (Dg.iv s N):=fun c hc m w' v1 base h1 h2 h3=>by
  obtain⟨a,cap,e,h4,_,h5,_⟩:=h3.ws;refine⟨⟨c,a,(pk m).length,cap⟩,e,rfl,pk m,⟨rfl,h4,h5,pk_nf h1⟩,fun e=>?_,?_⟩
  ·have:m=[]:=Decidable.byContradiction fun hm=>Hv hm e;subst this;have:N=0:=h2.symm;subst this;simp[hc,hd]
  ·rw[Hu,h2];by_cases h0:N=0
   ·subst h0;rw[Dg.mE,Dg.mE]
   ·simp[hc,hd,h0]
 have FIN:=Lib.hid fin;clear fin;have key:∀m,Dg.NF B16 m->Dg.vl B16 m=N->decide ((0:Int)<(m.length:Int))=d:=fun m h1 h2=>by
  have h3:=Dg.pN h1 (by decide);rw[hd,decide_eq_decide,<-h2];constructor
  ·intro h4 h5;rw[h3.1 h5]at h4;simp at h4
  ·intro h4;have:m≠[]:=fun e=>h4 (h3.2 e);have:=List.length_pos_iff.2 this;omega
 have KEY:=Lib.hid key;clear key hd;obtain⟨c0,hc0⟩:∃c0,c0=(s&&d):=⟨_,rfl⟩;have W1b:∀(W:World) (b x:Nat),b=W.heap.size->WS (W.alloc (.cells #[.int .u32 (x:Int)] 138)) (some ⟨b,0,none⟩) [x]:=fun W b x hb=>yB W _ b x hb;have WB:=Lib.hid W1b;have FIN1:=Lib.hid (FIN.out c0 hc0);clear W1b FIN;cases s<;>cases d;all_goals
  simp only[Bool.and_false,Bool.and_true]at hc0;have HC0:=Lib.hid hc0;clear hc0
  go_enter Tryz.func150,Tryz.ntmps150
  go_wp2_with (first|(go_at_call 188;(with_reducible refine(TR.out _ ?_).mono ?_);(exact bel);rintro e w1 ⟨⟨v1,m,rfl,h1,h2,h3⟩,hb1⟩;obtain⟨a1,c1,rfl,hle1,hv1⟩:=h1.parts;have hdf:=KEY.out m h2 h3;have HM:=Lib.hid (And.intro h2 h3);have hml:=LB.out m h2 h3;clear h1 h2 h3;obtain⟨g1,rfl⟩:=mob hb1;clear hb1;have HS1:=Lib.hid hv1;clear hv1;(obtain⟨q,hq⟩:∃q,q=m.length:=(⟨_,rfl⟩));have HQ:=Lib.hid hq;rw[<-hq]at hdf hml⊢;clear hq hle1))
  have hb5:∃b5,b5=w.heap.size+1+g1.2.size:=⟨_,rfl⟩;obtain⟨b5,hb5⟩:=hb5;have HB5:=Lib.hid hb5;have hqb:(q:Int)<=2000000000000:=by omega
  rw[<-hb5];clear hb5
  go_loopw [6] (fun i wr=>∃(k:Nat) (v:Value),k<=q+1/\i= .int .i64 ((k:Int))/\Hid (k%2=0)/\wr.cell? ⟨b5,0,none⟩=some (.bool c0)/\wr.cell? ⟨b5,1,none⟩=some v/\wr.frozen? ⟨b5,1,none⟩=false/\b5<wr.heap.size/\Hid (de wr (b5+1) v (pk (m.take k))/\Below b5 (more (w.alloc (.cells #[.bool false,.slice none 0 0] 62)) g1) wr)) (fun i _=>q+1-(intOf i).toNat)
  case atStart=>
   refine⟨0,.slice none 0 0,by omega,rfl,rfl,?_,?_,?_,?_,de.nil _ _,?_⟩
   ·rw[HB5.out,HC0.out];go_simp<;>(simp at hdf;omega)
   ·rw[HB5.out];go_simp
   ·rw[HB5.out];go_simp
   ·rw[HB5.out];simp
   ·rw[HB5.out];refine Below.alloc (Below.refl _ _) ?_ _;simp
  case round=>
   obtain⟨k,v,hk,rfl,HK,k0,k1,kf,kl,HR⟩:=hrel;by_cases hkq:k<q
   ·have hkq2:(k:Int)<(q:Int):=by omega
    obtain⟨x,hx⟩:∃x,m[k]?=some x:=⟨_,List.getElem?_eq_getElem (by rw[<-HQ.out];exact hkq)⟩;have hxb:x<65536:=HM.out.1.dg x (List.mem_of_getElem? hx);rcases HS1.out.below (HR.out.2) (by rw[HB5.out];simp)with h0|⟨g,ha,hg,hcc⟩
    ·rw[h0]at hx;simp at hx
    have c2:=hcc k x hx;subst ha;have PK0:=Fz HK.out hx;obtain⟨z,hz⟩:∃z,z=x+m.getD (k+1) 0*65536:=⟨_,rfl⟩;rw[<-hz]at PK0;have HZ:=Lib.hid hz;have PK:=Lib.hid PK0;clear hz PK0;have hlen:(pk (m.take k)).length+[z].length<=4000000000000:=by
     have:=C4 (m.take k);rw[List.length_take]at this;simp;omega
    by_cases hkq3:k+1<q
    ·have hkq4:(k:Int)+1<(q:Int):=by omega
     obtain⟨y,hy⟩:∃y,m[k+1]?=some y:=⟨_,List.getElem?_eq_getElem (by rw[<-HQ.out];exact hkq3)⟩;have hyb:y<65536:=HM.out.1.dg y (List.mem_of_getElem? hy);have c3:=hcc (k+1) y hy;have hyd:m.getD (k+1) 0=y:=by rw[List.getD_eq_getElem?_getD,hy];rfl
     have HY:Hid (∀(W:World) (b:Nat),b=W.heap.size->WS (W.alloc (.cells #[.int .u32 ((x:Int)+(y:Int)*65536)] 138)) (some ⟨b,0,none⟩) [z]):=fun W b hb=>by
      rw[show(x:Int)+(y:Int)*65536=(z:Int) by have:=HZ.out;rw[hyd]at this;omega];exact WB.out W b _ hb
     have hx2:(x:Int)<65536:=by omega
     have hy2:(y:Int)<65536:=by omega
     clear hcc hx hy hyd hxb hyb
     go_wp2_with (first|(at_builtin;go_must (refine fV (w0:=wr) (base:=b5+1) (v:=v) (l:=pk (m.take k)) ?_ ?_ ?_ 60 60 Tryz.underlying60 Tryz.underlying60 [z] wr.heap.size 1 1 rfl ?_ hlen rfl (.tmp 43) (.tmp 45) rfl (by rfl) (by rfl) ?_);(exact World.ownsRow.alloc HR.out.1 _);(exact bel);(focus(simp;omega));(exact HY.out _ _ (by simp));intro v4 w4 hown4 hB4 hz4;obtain⟨a4,cap4,hv4,_⟩:=hown4.ws;subst hv4;have HO4:=Lib.hid (And.intro hown4 hB4);have k4:=(hB4.cell (p:=⟨b5,0,none⟩) (Nat.lt_succ_self _)).trans k0;have k5:=(hB4.cell (p:=⟨b5,1,none⟩) (Nat.lt_succ_self _)).trans k1;have k6:=(hB4.frozen (p:=⟨b5,1,none⟩) (Nat.lt_succ_self _)).trans kf;clear hown4 hB4))
     go_roundw
     case rel=>
      refine⟨k+2,.slice a4 ((pk (m.take k)).length+1) cap4,by omega,by go_num,by have:=HK.out;show(k+2)%2=0;omega,?_,?_,?_,?_,?_,?_⟩
      ·rw[bN _ _ _ _ _ (by omega)];exact k4
      ·exact cw _ _ _ _ _ k5
      ·rw[World.frozen?_setCell];exact k6
      ·simp;omega
      ·have h1:=HO4.out.1;rw[show(pk (m.take k)++[z]).length=(pk (m.take k)).length+1 by simp]at h1;rw[<-PK.out]at h1;exact h1.CD _ (Nat.lt_succ_self _)
      ·exact Below.setCell (Below.trans HR.out.2 (HO4.out.2.mono (Nat.le_succ _))) (Nat.le_refl _) _
     case measure=>simp[intOf];omega
    ·have hkq4:¬(k:Int)+1<(q:Int):=by omega
     have hyd:m.getD (k+1) 0=0:=by rw[List.getD_eq_getElem?_getD,List.getElem?_eq_none (by rw[<-HQ.out];omega)];rfl
     have HY:Hid (∀(W:World) (b:Nat),b=W.heap.size->WS (W.alloc (.cells #[.int .u32 (x:Int)] 138)) (some ⟨b,0,none⟩) [z]):=fun W b hb=>by
      rw[show(x:Int)=(z:Int) by have:=HZ.out;rw[hyd]at this;omega];exact WB.out W b z hb
     have hx2:(x:Int)<65536:=by omega
     clear hcc hx hyd hxb
     go_wp2_with (first|(at_builtin;go_must (refine fV (w0:=wr) (base:=b5+1) (v:=v) (l:=pk (m.take k)) ?_ ?_ ?_ 60 60 Tryz.underlying60 Tryz.underlying60 [z] wr.heap.size 1 1 rfl ?_ hlen rfl (.tmp 43) (.tmp 45) rfl (by rfl) (by rfl) ?_);(exact World.ownsRow.alloc HR.out.1 _);(exact bel);(focus(simp;omega));(exact HY.out _ _ (by simp));intro v4 w4 hown4 hB4 hz4;obtain⟨a4,cap4,hv4,_⟩:=hown4.ws;subst hv4;have HO4:=Lib.hid (And.intro hown4 hB4);have k4:=(hB4.cell (p:=⟨b5,0,none⟩) (Nat.lt_succ_self _)).trans k0;have k5:=(hB4.cell (p:=⟨b5,1,none⟩) (Nat.lt_succ_self _)).trans k1;have k6:=(hB4.frozen (p:=⟨b5,1,none⟩) (Nat.lt_succ_self _)).trans kf;clear hown4 hB4))
     go_roundw
     case rel=>
      refine⟨k+2,.slice a4 ((pk (m.take k)).length+1) cap4,by omega,by go_num,by have:=HK.out;show(k+2)%2=0;omega,?_,?_,?_,?_,?_,?_⟩
      ·rw[bN _ _ _ _ _ (by omega)];exact k4
      ·exact cw _ _ _ _ _ k5
      ·rw[World.frozen?_setCell];exact k6
      ·simp;omega
      ·have h1:=HO4.out.1;rw[show(pk (m.take k)++[z]).length=(pk (m.take k)).length+1 by simp]at h1;rw[<-PK.out]at h1;exact h1.CD _ (Nat.lt_succ_self _)
      ·exact Below.setCell (Below.trans HR.out.2 (HO4.out.2.mono (Nat.le_succ _))) (Nat.le_refl _) _
     case measure=>simp[intOf];omega
   ·have hkq2:¬(k:Int)<(q:Int):=by omega
    have hfin:=FIN1.out m wr v (b5+1) HM.out.1 HM.out.2 (by have h1:=HR.out.1;rw[Ky (by rw[<-HQ.out];omega)]at h1;exact h1);obtain⟨y,rfl,rfl,hy⟩:=hfin;have HY:=Lib.hid hy;have r0:wr.cell? ⟨w.heap.size,0,none⟩=some (.bool false):=(HR.out.2.cell (p:=⟨w.heap.size,0,none⟩) AB).trans (by go_simp);have r1:wr.cell? ⟨w.heap.size,1,none⟩=some (.slice none 0 0):=(HR.out.2.cell (p:=⟨w.heap.size,1,none⟩) AB).trans (by go_simp);have r2:wr.frozen? ⟨w.heap.size,0,none⟩=false:=(HR.out.2.frozen (p:=⟨w.heap.size,0,none⟩) AB).trans (by go_simp);have r3:wr.frozen? ⟨w.heap.size,1,none⟩=false:=(HR.out.2.frozen (p:=⟨w.heap.size,1,none⟩) AB).trans (by go_simp);have r4:w.heap.size<wr.heap.size:=by have:=kl;have:=HB5.out;omega
    have hB6:Below w.heap.size w wr:=Below.trans (b:=more (w.alloc (.cells #[.bool false,.slice none 0 0] 62)) g1) ah (HR.out.2.mono (by rw[HB5.out];omega));have HB6:=Lib.hid hB6;clear hy hB6
    go_wp2_with fail
    refine bodyPost_ret (v:=.agg #[.bool y.s,.slice y.a y.n y.cap]) (by simp[results,Tryz.results150,go_sem,r0,r1]) rfl ⟨⟨y,rfl,?_⟩,?_⟩
    ·refine(HY.out.off (Off.set wr w.heap.size 0 _) r0).off (Off.set _ w.heap.size 1 _) (c:=y.s) ?_;exact cw _ _ _ _ _ r0
    ·have hB:=HB6.out;exact bel
end
section
open Go.RowKit
namespace DW
theorem lD{l:List Nat}{k:Nat}(h:k<l.length):l[k]?=some (l.getD k 0):=by rw[List.getD_eq_getElem?_getD,List.getElem?_eq_getElem h];rfl
theorem hd_of{l:List Nat}(h:Dg.dig 65536 l):l.take (tl l)=hd (Dg.vl 65536 l):=by
 obtain⟨h1,h2⟩:=II h;have:=Dg.xF (by decide) h1;rw[h2]at this;exact this.symm
abbrev trimQ(N:Nat)(e:Exit)(s:S):Prop:=(e= .normal\/e= .ret)/\s.gt 2= .own 18/\(18,(⟨3,1,(hd N).map hN⟩:Ow))∈s.ow
set_option maxRecDepth 20000 in
set_option maxHeartbeats 1000000 in
theorem Cf(X0:Nat->Prop)(l:List Nat)(hl:l.length<=900000000)(hdg:Dg.dig 65536 l):∃c,Tryz.f188.body=some c/\aW Tryz.prog X0 Tryz.f188.ntmps c (trimQ (Dg.vl 65536 l)) ⟨aD 0 [dN l],[]⟩:=by
 refine⟨_,rfl,?_⟩;have HT:=hd_of hdg;simp only[aD]
 (repeat(first|refine gk fun K hK=>?_|refine zs2 ?_));refine bK ?_;(repeat(first|refine gk fun K hK=>?_|refine zs2 ?_));(refine gar ?_;refine zs4 ?_;refine zs5 ?_;refine zs6 ?_;refine af ?_);(repeat(first|refine gk fun K hK=>?_|refine zs2 ?_))
 (refine ak (ai (sl':=[(0,dN l),(3,zI l.length)]) (ow':=[]) an aw) ?_)
 refine aE (fun k s=>tl l<=k/\k<=l.length/\s=⟨[(0,dN l),(3,zI k)],[]⟩) (m:=l.length) ⟨fD l,Nat.le_refl _,rfl⟩ fun k s hs=>?_;obtain⟨hk1,hk2,rfl⟩:=hs;have fin':∀(K:Exit->S->Prop),k=tl l->([]++(l.map hN).take k)=(hd (Dg.vl 65536 l)).map hN:=fun _ e=>by rw[List.nil_append,<-List.map_take,e,HT]
 by_cases hk0:k=0
 ·subst hk0;have ht:tl l=0:=by omega
  (repeat(first|refine gk fun K hK=>?_|refine zs2 ?_))
  (refine gar ?_;refine zs4 ?_;refine zs7 ?_;refine zs4 ?_;refine zs8 ?_;refine zs8 ?_;refine zs9 ?_;refine vL ?_;refine mQ ?_;refine vK ?_;refine gB ?_;refine af ?_)
  (repeat(first|refine gk fun K hK=>?_|refine zs2 ?_))
  refine lK iX (by rfl) ?_
  (repeat(first|refine gk fun K hK=>?_|refine zs2 ?_))
  refine G6 ?_
  (repeat(first|refine gk fun K hK=>?_|refine zs2 ?_))
  exact⟨.inr rfl,by rfl,by rw[<-fin' (fun _ _=>True) ht.symm];exact List.mem_cons_self⟩
 ·have hx:=lD (l:=l) (k:=k-1) (by omega);obtain⟨x,hxd⟩:∃x,x=l.getD (k-1) 0:=⟨_,rfl⟩;rw[<-hxd]at hx;have hcast:(k:Int)-1=((k-1:Nat):Int):=by omega
  by_cases hx0:x=0
  ·have hlt : tl l < k := by
    rcases mj l with h|h
    ·omega
    ·apply Nat.lt_of_le_of_ne hk1;intro e;rw[e]at h;exact h (by rw[<-hxd,hx0])
   (repeat(first|refine gk fun K hK=>?_|refine zs2 ?_))
   refine G5 ?_
   (repeat(first|refine gk fun K hK=>?_|refine zs2 ?_))
   refine kS iX (decide_eq_true (by omega)) ?_
   (repeat(first|refine gk fun K hK=>?_|refine zs2 ?_))
   refine pA ?_;simp only[nx,inB];exact⟨k-1,_,by omega,(ai (sl':=[(0,dN l),(3,zI (k-1:Nat))]) (ow':=[]) an aw),by omega,by omega,rfl⟩
  ·have ht : k = tl l := by
    apply Nat.le_antisymm _ hk1;apply Nat.le_of_not_lt;intro h;exact hx0 (by rw[hxd];exact jY l (k-1) (by omega))
   (repeat(first|refine gk fun K hK=>?_|refine zs2 ?_))
   refine G5 ?_
   (repeat(first|refine gk fun K hK=>?_|refine zs2 ?_))
   refine lK iX (decide_eq_false (by omega)) ?_
   (repeat(first|refine gk fun K hK=>?_|refine zs2 ?_))
   refine G6 ?_
   (repeat(first|refine gk fun K hK=>?_|refine zs2 ?_))
   exact⟨.inr rfl,by rfl,by rw[<-fin' (fun _ _=>True) ht];exact List.mem_cons_self⟩
theorem Cg(l:List Nat)(hl:l.length<=900000000)(hdg:Dg.dig 65536 l):Fn Tryz.prog 188 [dN l] (dN (hd (Dg.vl 65536 l))):=by
 refine aP Tryz.func188 aa rfl rfl rfl fun X0=>?_;obtain⟨c,h1,h2⟩:=Cf X0 l hl hdg;cases h1;refine h2.mono fun e s ⟨h3,h4,h5⟩=>?_;have:=JF (P:=Tryz.prog) (X0:=X0) (n:=Tryz.f188.ntmps) (fn:=Tryz.f188) (s:=s) (t:=2) rfl h4 h5;rcases h3 with rfl|rfl<;>exact this
theorem DD(l:List Nat)(hl:l.length<=900000000)(hdg:Dg.dig 65536 l)(X:Nat->Prop)(w:World)(v:Value)(hX:XW X w)(hv:AR X w (dN l) v):Calls Tryz.prog 188 #[v] w fun e w'=>HRes w' e (Dg.vl 65536 l)/\Below w.heap.size w w':=by
 obtain⟨c,h1,h2⟩:=Cf X l hl hdg;refine Em (ds:=[dN l]) Tryz.func188 h1 rfl rfl hX (by simp only[ATp];exact⟨v,[],rfl,hv,rfl⟩) _ h2 fun e s f a w' ⟨h3,h4,h5⟩ hh=>⟨h3,a.tmps.getD 2 undef,results_tmp rfl a.tmps _ _,⟨_,hd (Dg.vl 65536 l),rfl,?_,(Dg.bI (by decide) _).1,(Dg.bI (by decide) _).2⟩,hh.bl.low⟩;have h6:=hh.sl 2;rw[h4]at h6;simp only[SR]at h6;rw[h6];obtain⟨_,xs,⟨k1,k2⟩,k3⟩:=hh.ow _ h5;simp only[List.length_map]at k1 k2 k3;rcases k2 with⟨k4,k5⟩|⟨g,cap,cur,k4,_,hgg,hle,hm,hcs,htk⟩
 ·exact .inl ⟨k4,List.eq_nil_of_length_eq_zero k5⟩
 ·refine .inr ⟨g,cap,k4,hle,hm,(Array.getElem?_eq_some_iff.1 hgg).1,fun k x hk=>?_⟩;have hd':((hd (Dg.vl 65536 l)).map hN)[k]?=some (hN x):=by rw[List.getElem?_map,hk];rfl
  obtain⟨u,e1,_,_,e4⟩:=Els.at k3 hd';simp only[AR]at e1;have h7:=e4 0 u (by rw[eJ (by rw[e1.1];rfl)];rfl);rw[Nat.mul_one,Nat.add_zero]at h7;rw[cell_of_row w' g _ cur _ (0,0) hgg];have hlt:=(List.getElem?_eq_some_iff.1 h7).1;rw[<-htk,List.length_take]at hlt;rw[<-htk,List.getElem?_take_of_lt (by omega),Array.getElem?_toList]at h7;rw[h7,e1.1]
theorem wV(s:Bool)(l:List Nat)(hl:l.length<=900000000)(hdg:Dg.dig 65536 l):Fn Tryz.prog 150 [.sc (.bool s),dN l] (.nm (Dg.iv s (Dg.vl 65536 l))):=by
 refine⟨Go.Proofs.enters_of Tryz.func150 aa rfl,fun X w vs hX hv=>?_⟩;simp only[ATp]at hv;obtain⟨v1,r1,e,h1,v2,r2,e2,h2,e3⟩:=hv;simp only[AR]at h1;rw[e2,e3,h1.1]at e;have:vs= #[.bool s,v2]:=Array.toList_inj.1 e;subst this;exact(DG s l v2 (by omega) hdg w fun W hW=>DD l hl hdg X W v2 (hX.grow hW) (h2.grow hW)).mono fun e w' ⟨⟨x,k1,k2⟩,k3⟩=>⟨_,k1,by simp only[AR];exact⟨x,rfl,k2⟩,k3⟩
set_option maxRecDepth 20000 in
set_option maxHeartbeats 1000000 in
theorem Gn(z:Int)(hz:(wds z.natAbs).length<=400000000):Fn Tryz.prog 151 [.nm z] (dN (hd z.natAbs)):=by
 refine aP Tryz.func151 aa rfl rfl rfl fun X0=>?_;simp only[aD];have hv:Dg.vl B32 (wds z.natAbs)=z.natAbs:=(Dg.bI (by decide) _).2;have hdu:Dg.dig B32 (wds z.natAbs):=(Dg.bI (by decide) _).1.dg;have hvl:Dg.vl 65536 (hw (wds z.natAbs))=z.natAbs:=by rw[Hz,hv]
 have TRIM:=Cg (hw (wds z.natAbs)) (by rw[xi];omega) (Dz hdu);rw[hvl]at TRIM
 (repeat(first|refine gk fun K hK=>?_|refine zs2 ?_));(refine gar ?_;refine gA ?_;refine zs3 ?_;refine af ?_);(repeat(first|refine gk fun K hK=>?_|refine zs2 ?_));refine bK ?_;(repeat(first|refine gk fun K hK=>?_|refine zs2 ?_));refine aH ?_;(repeat(first|refine gk fun K hK=>?_|refine zs2 ?_))
 refine ak (cn (t:=3) (k:=3) (T:=3) (wd:=1) cr rfl rfl bD) ?_
 (refine ak (ai (sl':=[(1,.pt (.nm z)),(3,.own 3),(4,zI 0)]) (ow':=[(3,⟨3,1,[]⟩)]) an aw) ?_)
 refine aE (fun r s=>∃k,k<=(wds z.natAbs).length/\r=(wds z.natAbs).length-k/\s=⟨[(1,.pt (.nm z)),(3,.own 3),(4,zI k)],[(3,⟨3,1,(hw ((wds z.natAbs).take k)).map hN⟩)]⟩) (m:=(wds z.natAbs).length) ⟨0,by omega,rfl,by simp[hw]⟩ fun r s hs=>?_;obtain⟨k,hk,rfl,rfl⟩:=hs;by_cases hkl:k<(wds z.natAbs).length
 ·have hx:=lD hkl;obtain⟨x,hxd⟩:∃x,x=(wds z.natAbs).getD k 0:=⟨_,rfl⟩;rw[<-hxd]at hx;have hx32:x<4294967296:=hdu x (List.mem_of_getElem? hx);have hql:x/65536<65536:=by omega
  (repeat(first|refine gk fun K hK=>?_|refine zs2 ?_))
  refine iu ?_
  (repeat(first|refine gk fun K hK=>?_|refine zs2 ?_))
  refine kS iX (decide_eq_true (by omega)) ?_
  (repeat(first|refine gk fun K hK=>?_|refine zs2 ?_))
  (((first|(apply ao 16;(focus kernel_rfl);(decide+kernel))|(apply ao 15;(focus kernel_rfl);(decide+kernel))|(apply ao 14;(focus kernel_rfl);(decide+kernel))|(apply ao 13;(focus kernel_rfl);(decide+kernel))|(apply ao 12;(focus kernel_rfl);(decide+kernel))|(apply ao 11;(focus kernel_rfl);(decide+kernel))|(apply ao 10;(focus kernel_rfl);(decide+kernel))|(apply ao 9;(focus kernel_rfl);(decide+kernel)));simp only[List.take_succ_cons,List.take_zero,List.drop_succ_cons,List.drop_zero]);refine aR ?_;refine vJ ?_;refine bq ?_;refine aR ?_;refine dn ?_;refine bq ?_;(first|refine cC rfl rfl rfl ae zb10 ae ae ?_|((try refine aB ?_);refine aL1 rfl rfl rfl zb10 ?_));refine zs29 ?_;refine vJ ?_;refine bq ?_;refine aR ?_;refine dn ?_;refine bq ?_;(first|refine cC rfl rfl rfl ae zb9 ae ae ?_|((try refine aB ?_);refine aL1 rfl rfl rfl zb9 ?_));refine zs29 ?_;(first|refine cC rfl rfl rfl ae zb29 ae ae ?_|((try refine aB ?_);refine aL1 rfl rfl rfl zb29 ?_));((try refine aB ?_);(refine kU rfl rfl rfl rfl bz bz aZ ae qx aa aa (by(simp only[List.length_map,xi,List.length_take,List.length_cons,List.length_nil];omega)) bD qv ?_));refine ko ?_;refine cP ?_)
  (repeat(first|refine gk fun K hK=>?_|refine zs2 ?_))
  refine aX ?_;simp only[nx,inB];refine⟨(wds z.natAbs).length-(k+1),_,by omega,(ai (sl':=[(1,.pt (.nm z)),(3,.own 3),(4,zI (k+1:Nat))]) (ow':=[(3,⟨3,1,(hw ((wds z.natAbs).take k)).map hN++[hN (x%65536),hN (x/65536)]⟩)]) an aw),k+1,by omega,rfl,?_⟩;rw[JC hx,List.map_append];rfl
 ·have hke:k=(wds z.natAbs).length:=by omega
  subst hke;rw[List.take_length]
  (repeat(first|refine gk fun K hK=>?_|refine zs2 ?_))
  refine iu ?_
  (repeat(first|refine gk fun K hK=>?_|refine zs2 ?_))
  refine lK iX (decide_eq_false (by omega)) ?_
  (repeat(first|refine gk fun K hK=>?_|refine zs2 ?_))
  refine ak (aF (k:=3) aZ bB bA) ?_;refine kY ?_
  (repeat(first|refine gk fun K hK=>?_|refine zs2 ?_))
  exact⟨_,Sh.refl,.one (.tmp 2) _ rfl (.tmp 2 rfl)⟩
end DW
end
section
open Go.RowKit
namespace DW
theorem eK{n k:Nat}(h:n<65536^k):(hd n).length<=k:=by
 apply Nat.le_of_not_lt;intro hlt;obtain⟨j,hj⟩:∃j,(hd n).length=j+1:=⟨(hd n).length-1,by omega⟩;have h1:=Dg.iE hj (Dg.bI (by decide) n).1;rw[show Dg.vl 65536 (hd n)=n from(Dg.bI (by decide) n).2]at h1;have h2:=Nat.pow_le_pow_right (n:=65536) (by omega) (show k<=j by omega);omega
theorem lC(n:Nat):n<65536^(hd n).length:=by
 have h:=Dg.bg (Dg.bI (b:=65536) (by decide) n).1.dg;rw[(Dg.bI (by decide) n).2]at h;exact h
theorem fo{m n:Nat}(h:m<=n):(hd m).length<=(hd n).length:=eK (Nat.lt_of_le_of_lt h (lC n))
theorem IA(n:Nat):(wds n).length<=(hd n).length:=by
 by_cases h0:(wds n).length=0
 ·omega
 ·obtain⟨j,hj⟩:∃j,(wds n).length=j+1:=⟨(wds n).length-1,by omega⟩;have h1:=Dg.iE hj (Dg.bI (b:=4294967296) (by decide) n).1;rw[show Dg.vl 4294967296 (wds n)=n from(Dg.bI (by decide) n).2]at h1;have h2:(4294967296:Nat)^j=65536^(2*j):=by rw[Nat.pow_mul]
  rw[h2]at h1;have h3:=Nat.lt_of_le_of_lt h1 (lC n);have h4:=(Nat.pow_lt_pow_iff_right (by omega:1<65536)).1 h3;omega
theorem fj(n:Nat):Dg.dig 65536 (hd n):=(Dg.bI (by decide) n).1.dg
theorem eZ(n:Nat):Dg.vl 65536 (hd n)=n:=(Dg.bI (by decide) n).2
theorem iK(n:Nat):(hd n).length=0↔n=0:=by
 rw[List.length_eq_zero_iff];exact Dg.JO (by decide)
def Hf(z:Int):Prop:=(hd z.natAbs).length<=200000000
theorem Hf.neg{z:Int}(h:Hf z):Hf (-z):=by unfold Hf;rw[Int.natAbs_neg];exact h
theorem dG{z:Int}(h:Hf z):Fn Tryz.prog 151 [.nm z] (dN (hd z.natAbs)):=Gn z (by have:=IA z.natAbs;unfold Hf at h;omega)
theorem rF{l:List Nat}(hl:l.length<=900000000)(hdg:Dg.dig 65536 l){n:Nat}(hv:Dg.vl 65536 l=n):Fn Tryz.prog 188 [dN l] (dN (hd n)):=hv▸Cg l hl hdg
theorem gh{s:Bool}{n:Nat}(h:(hd n).length<=900000000){z:Int}(hz:Dg.iv s n=z):Fn Tryz.prog 150 [.sc (.bool s),dN (hd n)] (.nm z):=by
 have:=wV s (hd n) h (fj n);rw[eZ,hz]at this;exact this
theorem sy{z:Int}:Dg.iv (decide (z<0)) z.natAbs=z:=by unfold Dg.iv;split<;>rename_i h<;>simp at h<;>omega
theorem KJ{z:Int}:Dg.iv (!decide (z<0)) z.natAbs= -z:=by unfold Dg.iv;split<;>rename_i h<;>simp at h<;>omega
set_option maxRecDepth 20000
set_option maxHeartbeats 1000000
theorem wL(z:Int)(hz:Hf z):Fn Tryz.prog 80 [.nm z] (.nm z):=by
 have D1:=dG hz;have M1:=gh (s:=decide (z<0)) (n:=z.natAbs) (by unfold Hf at hz;omega) sy;refine aP Tryz.func80 aa rfl rfl rfl fun X0=>?_;simp only[aD]
 (repeat(first|refine gk fun K hK=>?_|refine zs2 ?_));refine vp ?_;(repeat(first|refine gk fun K hK=>?_|refine zs2 ?_));(refine zs35 ?_;refine og ?_;refine bq ?_;refine bq ?_;refine kj ?_;refine gy ?_;refine te ?_;refine cP ?_);(repeat(first|refine gk fun K hK=>?_|refine zs2 ?_))
 exact⟨_,aF (k:=2) aZ bB bA,.one (.cell 2 62) _ rfl (.cell 2 _ _ rfl rfl aa aa)⟩
theorem Hw(z:Int)(hz:Hf z):Fn Tryz.prog 116 [.nm z] (.nm (-z)):=by
 have D1:=dG hz;have M1:=gh (s:=!decide (z<0)) (n:=z.natAbs) (by unfold Hf at hz;omega) KJ;refine aP Tryz.func116 aa rfl rfl rfl fun X0=>?_;simp only[aD]
 (repeat(first|refine gk fun K hK=>?_|refine zs2 ?_));refine vp ?_;(repeat(first|refine gk fun K hK=>?_|refine zs2 ?_));(refine zs40 ?_;refine og ?_;refine bq ?_;refine zs41 ?_;refine bq ?_;refine kj ?_;refine gy ?_;refine te ?_;refine cP ?_);(repeat(first|refine gk fun K hK=>?_|refine zs2 ?_))
 exact⟨_,aF (k:=2) aZ bB bA,.one (.cell 2 62) _ rfl (.cell 2 _ _ rfl rfl aa aa)⟩
theorem oE(z:Int)(hz:Hf z):Fn Tryz.prog 106 [.nm z] (zI (sgn z)):=by
 have D1:=dG hz;refine aP Tryz.func106 aa rfl rfl rfl fun X0=>?_;simp only[aD];by_cases h0:z=0
 ·have hl:(hd z.natAbs).length=0:=(iK _).2 (by omega)
  (repeat(first|refine gk fun K hK=>?_|refine zs2 ?_));refine jq ?_;(repeat(first|refine gk fun K hK=>?_|refine zs2 ?_));(refine gar ?_;refine aS ?_;refine cO ?_;refine zs5 ?_;refine td ?_;refine af ?_);(repeat(first|refine gk fun K hK=>?_|refine zs2 ?_))
  refine kS iX (decide_eq_true (by omega)) ?_
  (repeat(first|refine gk fun K hK=>?_|refine zs2 ?_));refine aH ?_;(repeat(first|refine gk fun K hK=>?_|refine zs2 ?_))
  rw[show sgn z=0 by unfold sgn;rw[if_pos h0]];exact⟨_,Sh.refl,.one (.tmp 2) _ rfl (.tmp 2 rfl)⟩
 ·have hl:(hd z.natAbs).length≠0:=fun e=>h0 (by have:=(iK _).1 e;omega)
  (repeat(first|refine gk fun K hK=>?_|refine zs2 ?_));refine jq ?_;(repeat(first|refine gk fun K hK=>?_|refine zs2 ?_));(refine gar ?_;refine aS ?_;refine cO ?_;refine zs5 ?_;refine td ?_;refine af ?_);(repeat(first|refine gk fun K hK=>?_|refine zs2 ?_))
  refine lK iX (decide_eq_false (by omega)) ?_
  (repeat(first|refine gk fun K hK=>?_|refine zs2 ?_));refine Ax ?_;(repeat(first|refine gk fun K hK=>?_|refine zs2 ?_))
  by_cases h1:z<0
  ·refine kS iX (decide_eq_true (by omega)) ?_
   (repeat(first|refine gk fun K hK=>?_|refine zs2 ?_));refine aH ?_;(repeat(first|refine gk fun K hK=>?_|refine zs2 ?_))
   rw[show sgn z= -1 by unfold sgn;rw[if_neg (by omega),if_pos h1]];exact⟨_,Sh.refl,.one (.tmp 2) _ rfl (.tmp 2 rfl)⟩
  ·refine lK iX (decide_eq_false (by omega)) ?_
   (repeat(first|refine gk fun K hK=>?_|refine zs2 ?_));refine aH ?_;(repeat(first|refine gk fun K hK=>?_|refine zs2 ?_))
   rw[show sgn z=1 by unfold sgn;rw[if_neg (by omega),if_neg (by omega)]];exact⟨_,Sh.refl,.one (.tmp 2) _ rfl (.tmp 2 rfl)⟩
end DW
end
section
open Go.RowKit
namespace DW
theorem ID{b:Nat}(l:List Nat)(x:Nat):Dg.vl b (l++[x])=Dg.vl b l+b^l.length*x:=by rw[Dg.cA];simp[Dg.vl]
theorem kO{b:Nat}{l:List Nat}{x:Nat}(h:Dg.dig b l)(hx:x<b):Dg.dig b (l++[x]):=Dg.iP h fun y hy=>by
 rw[List.mem_singleton.1 hy];exact hx
theorem kD(l:List Nat)(x:Nat):(l++[x]).map hN=l.map hN++[hN x]:=by rw[List.map_append];rfl
theorem Db{l:List Nat}{m:Nat}(h:65536^l.length*m<65536^4)(hm:0<m):l.length<4:=by
 have h1:65536^l.length<=65536^l.length*m:=Nat.le_mul_of_pos_right _ hm;exact(Nat.pow_lt_pow_iff_right (by omega:1<65536)).1 (Nat.lt_of_le_of_lt h1 h)
theorem yY(l:List Nat)(m:Nat):Dg.vl 65536 (l++[m%65536])+65536^(l++[m%65536]).length*(m/65536)=Dg.vl 65536 l+65536^l.length*m:=by
 rw[ID,List.length_append,List.length_singleton,Nat.pow_succ,Nat.mul_assoc,Nat.add_assoc,<-Nat.mul_add];congr 2;omega
set_option maxRecDepth 20000
set_option maxHeartbeats 1000000
theorem wJ(z:Int)(hz: -9223372036854775808<=z/\z<=9223372036854775807):Fn Tryz.prog 81 [zI z] (.nm z):=by
 refine aP Tryz.func81 aa rfl rfl rfl fun X0=>?_;simp only[aD];have hb:z.natAbs<65536^4:=by rw[show(65536:Nat)^4=18446744073709551616 by rfl];omega
 (repeat(first|refine gk fun K hK=>?_|refine zs2 ?_));(refine gar ?_;refine zs34 ?_;refine af ?_);(repeat(first|refine gk fun K hK=>?_|refine zs2 ?_));refine bK ?_;(repeat(first|refine gk fun K hK=>?_|refine zs2 ?_));(refine gar ?_;refine zs4 ?_;refine zs7 ?_;refine zs6 ?_;refine af ?_);(repeat(first|refine gk fun K hK=>?_|refine zs2 ?_))
 refine ak (cn (t:=3) (k:=3) (T:=3) (wd:=1) cr rfl rfl bD) ?_;by_cases hn:z<0
 ·have M : ∀ l : List Nat, Dg.vl 65536 l = z.natAbs -> Dg.dig 65536 l -> l.length <= 4 -> Fn Tryz.prog 150 [.sc (.bool (decide (z < 0))), dN l] (.nm z) := fun l h1 h2 h3 => by
   have:=wV (decide (z<0)) l (by omega) h2;rwa[h1,sy]at this
  (refine ak (ai (sl':=[(0,zI (-((z.natAbs:Nat):Int))),(2, .opt 2 0),(3, .own 3),(4, .sc (.bool (decide (z<0))))]) (ow':=[(3,⟨3,1,[]⟩),(2,⟨62,2,[.nm 0]⟩)]) an aw) ?_)
  refine aE (fun r s=>∃l,Dg.dig 65536 l/\l.length<=4/\Dg.vl 65536 l+65536^l.length*r=z.natAbs/\r<=9223372036854775808/\s=⟨[(0,zI (-(r:Int))),(2, .opt 2 0),(3, .own 3),(4, .sc (.bool (decide (z<0))))],[(3,⟨3,1,l.map hN⟩),(2,⟨62,2,[.nm 0]⟩)]⟩) (m:=z.natAbs) ⟨[],fun _ h=>(by cases h),by simp,by simp[Dg.vl],by omega,rfl⟩ fun r s hs=>?_;obtain⟨l,h1,h2,h3,h4,rfl⟩:=hs;by_cases hr:r=0
  ·subst hr
   (repeat(first|refine gk fun K hK=>?_|refine zs2 ?_));refine eO ?_;(repeat(first|refine gk fun K hK=>?_|refine zs2 ?_))
   refine az ?_
   (repeat(first|refine gk fun K hK=>?_|refine zs2 ?_))
   refine ak (aF (k:=3) aZ bB bA) ?_
   (refine gar ?_;refine zs4 ?_;refine zs4 ?_;refine zs46 ?_;refine dC ?_;refine af ?_)
   (repeat(first|refine gk fun K hK=>?_|refine zs2 ?_))
   exact⟨_,aF (k:=2) aZ bB bA, .one (.cell 2 62) _ rfl (.cell 2 _ _ rfl rfl aa aa)⟩
  ·have hl:=Db (l:=l) (m:=r) (by omega) (by omega);have e1:(-(r:Int)).tmod 65536= -((r%65536:Nat):Int):=by rw[Int.neg_tmod];rfl
   have e2:(-(r:Int)).tdiv 65536= -((r/65536:Nat):Int):=by rw[Int.neg_tdiv];rfl
   have h5:=yY l r;have h6:=kO h1 (Nat.mod_lt r (by omega:0<65536));have h7:(l++[r%65536]).length=l.length+1:=by simp
   have h8:=kD l (r%65536)
   (repeat(first|refine gk fun K hK=>?_|refine zs2 ?_));refine eO ?_;(repeat(first|refine gk fun K hK=>?_|refine zs2 ?_))
   refine av ?_;by_cases hd0:r%65536=0;all_goals
    (repeat(first|refine gk fun K hK=>?_|refine zs2 ?_));(refine gar ?_;refine zs4 ?_;refine zX ?_;refine zs6 ?_;refine af ?_);(repeat(first|refine gk fun K hK=>?_|refine zs2 ?_));refine eM ?_;(repeat(first|refine gk fun K hK=>?_|refine zs2 ?_))
    (first|(refine av ?_;(repeat(first|refine gk fun K hK=>?_|refine zs2 ?_));(refine gar ?_;refine zs4 ?_;(refine aL1 rfl rfl rfl (by(apply d_neg;(exact rfl);(focus((apply au;(conv=>lhs;whnf);(first|done|exact rfl))));(omega))) ?_);refine zs6 ?_;refine af ?_);(repeat(first|refine gk fun K hK=>?_|refine zs2 ?_)))|(refine az ?_;(repeat(first|refine gk fun K hK=>?_|refine zs2 ?_))))
    (refine ak (ai (sl':=[(0,zI (-(r:Int))),(2, .opt 2 0),(3, .own 3),(4, .sc (.bool (decide (z<0)))),(5,hN (r%65536))]) (ow':=[(3,⟨3,1,l.map hN⟩),(2,⟨62,2,[.nm 0]⟩)]) an aw) ?_)
    (repeat(first|refine gk fun K hK=>?_|refine zs2 ?_));refine mP ?_;(repeat(first|refine gk fun K hK=>?_|refine zs2 ?_));refine ry ?_;(repeat(first|refine gk fun K hK=>?_|refine zs2 ?_))
    simp only[nx,inB];exact⟨r/65536,_,by omega,(ai (sl':=[(0,zI (-((r/65536:Nat):Int))),(2, .opt 2 0),(3, .own 3),(4, .sc (.bool (decide (z<0))))]) (ow':=[(3,⟨3,1,l.map hN++[hN (r%65536)]⟩),(2,⟨62,2,[.nm 0]⟩)]) an aw),l++[r%65536],h6,by omega,by omega,by omega,by rw[h8]⟩
 ·have M : ∀ l : List Nat, Dg.vl 65536 l = z.natAbs -> Dg.dig 65536 l -> l.length <= 4 -> Fn Tryz.prog 150 [.sc (.bool (decide (z < 0))), dN l] (.nm z) := fun l h1 h2 h3 => by
   have:=wV (decide (z<0)) l (by omega) h2;rwa[h1,sy]at this
  (refine ak (ai (sl':=[(0,zI ((z.natAbs:Nat):Int)),(2, .opt 2 0),(3, .own 3),(4, .sc (.bool (decide (z<0))))]) (ow':=[(3,⟨3,1,[]⟩),(2,⟨62,2,[.nm 0]⟩)]) an aw) ?_)
  refine aE (fun r s=>∃l,Dg.dig 65536 l/\l.length<=4/\Dg.vl 65536 l+65536^l.length*r=z.natAbs/\r<=9223372036854775807/\s=⟨[(0,zI (r:Int)),(2, .opt 2 0),(3, .own 3),(4, .sc (.bool (decide (z<0))))],[(3,⟨3,1,l.map hN⟩),(2,⟨62,2,[.nm 0]⟩)]⟩) (m:=z.natAbs) ⟨[],fun _ h=>(by cases h),by simp,by simp[Dg.vl],by omega,rfl⟩ fun r s hs=>?_;obtain⟨l,h1,h2,h3,h4,rfl⟩:=hs;by_cases hr:r=0
  ·subst hr
   (repeat(first|refine gk fun K hK=>?_|refine zs2 ?_));refine eO ?_;(repeat(first|refine gk fun K hK=>?_|refine zs2 ?_))
   refine az ?_
   (repeat(first|refine gk fun K hK=>?_|refine zs2 ?_))
   refine ak (aF (k:=3) aZ bB bA) ?_
   (refine gar ?_;refine zs4 ?_;refine zs4 ?_;refine zs46 ?_;refine dC ?_;refine af ?_)
   (repeat(first|refine gk fun K hK=>?_|refine zs2 ?_))
   exact⟨_,aF (k:=2) aZ bB bA, .one (.cell 2 62) _ rfl (.cell 2 _ _ rfl rfl aa aa)⟩
  ·have hl:=Db (l:=l) (m:=r) (by omega) (by omega);have h5:=yY l r;have h6:=kO h1 (Nat.mod_lt r (by omega:0<65536));have h7:(l++[r%65536]).length=l.length+1:=by simp
   have h8:=kD l (r%65536)
   (repeat(first|refine gk fun K hK=>?_|refine zs2 ?_));refine eO ?_;(repeat(first|refine gk fun K hK=>?_|refine zs2 ?_))
   refine av ?_
   (repeat(first|refine gk fun K hK=>?_|refine zs2 ?_));(refine gar ?_;refine zs4 ?_;refine zX ?_;refine zs6 ?_;refine af ?_);(repeat(first|refine gk fun K hK=>?_|refine zs2 ?_));refine eM ?_;(repeat(first|refine gk fun K hK=>?_|refine zs2 ?_))
   refine az ?_
   (repeat(first|refine gk fun K hK=>?_|refine zs2 ?_));refine mP ?_;(repeat(first|refine gk fun K hK=>?_|refine zs2 ?_));refine ry ?_;(repeat(first|refine gk fun K hK=>?_|refine zs2 ?_))
   simp only[nx,inB];exact⟨r/65536,_,by omega,(ai (sl':=[(0,hN (r/65536)),(2, .opt 2 0),(3, .own 3),(4, .sc (.bool (decide (z<0))))]) (ow':=[(3,⟨3,1,l.map hN++[hN (r%65536)]⟩),(2,⟨62,2,[.nm 0]⟩)]) an aw),l++[r%65536],h6,by omega,by omega,by omega,by rw[h8]⟩
end DW
end
end Go.Proofs.YtcgjmdpcplhanaaGreat
