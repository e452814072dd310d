/- Lemmas for the law: H3 E1 E2 E3 -/
import Derived.Test.YtcgjmdpcplhanaaGreatZh2
namespace Go.Proofs.YtcgjmdpcplhanaaGreat
section
theorem zb4{p:Prop}(h:p:=by(first|(apply iS;(exact rfl);(focus((apply an;(conv=>lhs;whnf);(first|done|exact rfl))));(focus((apply an;(conv=>lhs;whnf);(first|done|exact rfl))));(kernel_rfl);(kernel_rfl);(omega);(focus((first|(apply get_map;assumption)|(apply get_own;assumption)))))|(apply fF;(exact rfl);(focus((apply an;(conv=>lhs;whnf);(first|done|exact rfl))));(focus((apply an;(conv=>lhs;whnf);(first|done|exact rfl))));(focus((repeat(first|exact List.mem_cons_self|refine List.mem_cons_of_mem _ ?_))));(kernel_rfl);(kernel_rfl);(focus(first|omega|(simp;omega)));(focus(first|(apply ep;assumption)|exact rfl))))):p:=h
theorem aa{p:Prop}(h:p:=by exact rfl):p:=h
theorem cR{p q:Prop}(h:q)(f:Wq q->p:=by(intro hW;((first|refine cE rfl rfl rfl aa zb4 aa aa ?_|((try refine aB ?_);refine aL1 rfl rfl rfl zb4 ?_)));exact hW.out)):p:=f ⟨h⟩
theorem di{p q:Prop}(h:q)(f:Wq q->p:=by(intro hW;((try refine aB ?_);refine af ?_);exact hW.out)):p:=f ⟨h⟩
theorem zs2{p q:Prop}(h:q)(f:Wq q->p:=by(intro hW;(first|refine F0 ?_|refine Jm ?_|refine Jq ?_|refine Ks ?_|((simp only[nx,inB,ite_true,ite_false,↓reduceIte,Nat.reduceEqDiff,reduceCtorEq]);apply_assumption-exfalso));exact hW.out)):p:=f ⟨h⟩
theorem bK{p:Prop}(h:p:=by(apply aY;(conv=>lhs;whnf);(first|done|exact rfl|(apply aK;(first|(apply decide_eq_true;omega)|(apply decide_eq_false;omega)|assumption|(simp;done)))))):p:=h
theorem zb21{p:Prop}(h:p:=by(first|(apply G9;(exact rfl);(focus((apply an;(conv=>lhs;whnf);(first|done|exact rfl))));(exact bu);(omega))|(apply cA;(exact rfl);(focus((apply an;(conv=>lhs;whnf);(first|done|exact rfl))));(exact bu);(exact rfl)))):p:=h
theorem zs9{p q:Prop}(h:q)(f:Wq q->p:=by(intro hW;((first|(refine aLs rfl rfl rfl rfl ?_ ?_;(focus(apply aY;(conv=>lhs;whnf);(first|done|exact rfl|(apply aK;(first|(apply decide_eq_true;omega)|(apply decide_eq_false;omega)|assumption|(simp;done)))))))|refine aLw rfl rfl rfl rfl bK zb21 ?_));exact hW.out)):p:=f ⟨h⟩
theorem bZ{p:Prop}(h:p:=by(repeat(first|exact nF|(apply lD;(exact rfl))|(apply nG;(exact rfl))))):p:=h
theorem An{p:Prop}(h:p:=by(first|(apply Bf;(exact rfl);(focus((apply an;(conv=>lhs;whnf);(first|done|exact rfl))));(kernel_rfl);(kernel_rfl))|(apply d_field_at;(exact rfl);(focus((apply an;(conv=>lhs;whnf);(first|done|exact rfl))));(kernel_rfl);(exact rfl);(kernel_rfl)))):p:=h
theorem zC{p q:Prop}(h:q)(f:Wq q->p:=by(intro hW;((first|refine cE rfl rfl rfl aa An aa aa ?_|((try refine aB ?_);refine aL1 rfl rfl rfl An ?_)));exact hW.out)):p:=f ⟨h⟩
theorem tv{p:Prop}(h:p:=by(apply nQ;(exact rfl);(focus((apply an;(conv=>lhs;whnf);(first|done|exact rfl)))))):p:=h
theorem zs6{p q:Prop}(h:q)(f:Wq q->p:=by(intro hW;(refine aL1 rfl rfl rfl tv ?_);exact hW.out)):p:=f ⟨h⟩
theorem zb1{p:Prop}(h:p:=by(first|(apply sI;(exact rfl);(focus((apply an;(conv=>lhs;whnf);(first|done|exact rfl))));(exact rfl);(focus((first|exact fb|exact eY|exact eZ|exact wd_pt|exact rfl)));(exact rfl);(kernel_rfl);(kernel_rfl))|(apply iU;(exact rfl);(focus((apply an;(conv=>lhs;whnf);(first|done|exact rfl))));(focus((repeat(first|exact List.mem_cons_self|refine List.mem_cons_of_mem _ ?_))));(exact im);(exact rfl);(exact rfl);(focus((first|exact fb|exact eY|exact eZ|exact wd_pt|exact rfl)));(exact rfl);(kernel_rfl);(kernel_rfl))|(apply jC;(exact rfl);(focus((apply an;(conv=>lhs;whnf);(first|done|exact rfl))));(focus((repeat(first|exact List.mem_cons_self|refine List.mem_cons_of_mem _ ?_))));(exact rfl);(focus((first|exact im|(apply nJ;assumption)|assumption|exact rfl)));(exact rfl);(focus((first|exact fb|exact eY|exact eZ|exact wd_pt|exact rfl)));(exact rfl);(kernel_rfl);(kernel_rfl))|(apply kj;(exact rfl);(focus((apply an;(conv=>lhs;whnf);(first|done|exact rfl))));(focus((repeat(first|exact List.mem_cons_self|refine List.mem_cons_of_mem _ ?_))));(exact rfl);(focus(first|(apply ep;assumption)|exact rfl));(assumption);(kernel_rfl);(kernel_rfl)))):p:=h
theorem bp{p q:Prop}(h:q)(f:Wq q->p:=by(intro hW;((first|refine cE rfl rfl rfl aa zb1 aa aa ?_|((try refine aB ?_);refine aL1 rfl rfl rfl zb1 ?_)));exact hW.out)):p:=f ⟨h⟩
theorem zs45{p q:Prop}(h:q)(f:Wq q->p:=by(intro hW;(refine aL1 rfl rfl rfl (by(first|(apply cA;(exact rfl);(focus((apply an;(conv=>lhs;whnf);(first|done|exact rfl))));(exact bu);(exact rfl))|(apply Ha;(exact rfl);(focus((apply an;(conv=>lhs;whnf);(first|done|exact rfl))));(exact bu);(kernel_rfl)))) ?_);exact hW.out)):p:=f ⟨h⟩
theorem kG{p:Prop}(h:p:=by(apply Kk;(exact rfl);(focus((apply an;(conv=>lhs;whnf);(first|done|exact rfl)))))):p:=h
theorem zs4{p q:Prop}(h:q)(f:Wq q->p:=by(intro hW;(refine aL1 rfl rfl rfl kG ?_);exact hW.out)):p:=f ⟨h⟩
theorem lp{p q:Prop}(h:q)(f:Wq q->p:=by(intro hW;((refine gar ?_;refine zs4 ?_;refine zs45 ?_;refine af ?_));exact hW.out)):p:=f ⟨h⟩
theorem br{p q:Prop}(h:q)(f:Wq q->p:=by(intro hW;(refine aL1 rfl rfl rfl zb1 ?_);exact hW.out)):p:=f ⟨h⟩
theorem kF{p q:Prop}(h:q)(f:Wq q->p:=by(intro hW;(refine aL1 rfl rfl rfl (by(apply nQ;(exact rfl);(exact bu))) ?_);exact hW.out)):p:=f ⟨h⟩
theorem aS{p q:Prop}(h:q)(f:Wq q->p:=by(intro hW;((refine gar ?_;refine kF ?_;refine af ?_));exact hW.out)):p:=f ⟨h⟩
theorem zb2{p:Prop}(h:p:=by(first|(apply Kn;(exact rfl);(focus((apply an;(conv=>lhs;whnf);(first|done|exact rfl))));(kernel_rfl))|(apply Bh;(exact rfl);(focus((apply an;(conv=>lhs;whnf);(first|done|exact rfl))));(focus((repeat(first|exact List.mem_cons_self|refine List.mem_cons_of_mem _ ?_))));(kernel_rfl))|(apply d_len;(exact rfl);(focus((apply an;(conv=>lhs;whnf);(first|done|exact rfl))));(kernel_rfl))|(apply d_len_own;(exact rfl);(focus((apply an;(conv=>lhs;whnf);(first|done|exact rfl))));(focus((repeat(first|exact List.mem_cons_self|refine List.mem_cons_of_mem _ ?_))));(kernel_rfl))|(apply d_len0;(exact rfl);(focus((apply an;(conv=>lhs;whnf);(first|done|exact rfl))));(kernel_rfl)))):p:=h
theorem zs5{p q:Prop}(h:q)(f:Wq q->p:=by(intro hW;(refine aL1 rfl rfl rfl zb2 ?_);exact hW.out)):p:=f ⟨h⟩
theorem Al{p:Prop}(h:p:=by(apply cA;(exact rfl);(focus((apply an;(conv=>lhs;whnf);(first|done|exact rfl))));(focus((apply an;(conv=>lhs;whnf);(first|done|exact rfl))));(exact rfl))):p:=h
theorem lU{p q:Prop}(h:q)(f:Wq q->p:=by(intro hW;(refine aL1 rfl rfl rfl Al ?_);exact hW.out)):p:=f ⟨h⟩
theorem zs22{p q:Prop}(h:q)(f:Wq q->p:=by(intro hW;(refine aL1 rfl rfl rfl An ?_);exact hW.out)):p:=f ⟨h⟩
theorem rp{p q:Prop}(h:q)(f:Wq q->p:=by(intro hW;((refine gar ?_;refine zs4 ?_;refine zs22 ?_;refine br ?_;refine zs5 ?_;refine lU ?_;refine af ?_));exact hW.out)):p:=f ⟨h⟩
theorem zs3{p q:Prop}(h:q)(f:Wq q->p:=by(intro hW;(refine aL1 rfl rfl rfl (by(apply nQ;(exact rfl);(exact pK))) ?_);exact hW.out)):p:=f ⟨h⟩
theorem dL{p:Prop}(h:p:=by(first|exact fb|exact eY|exact eZ|exact wd_pt|exact rfl)):p:=h
theorem bc{p:Prop}(h:p:=by(repeat(first|exact List.mem_cons_self|refine List.mem_cons_of_mem _ ?_))):p:=h
theorem lW{p:Prop}(h:p:=by first|exact Nat.zero_lt_one|omega|(simp;omega)):p:=h
theorem lX{p:Prop}(h:p:=by(repeat(first|exact set_nil|apply Ir|apply Is|(apply ET;(exact rfl))))):p:=h
theorem bq{p:Prop}(h:p:=by(apply an;(conv=>lhs;whnf);(first|done|exact rfl))):p:=h
theorem iy{p q:Prop}(h:q)(f:Wq q->p:=by(intro hW;((refine kD (i:=0) rfl rfl rfl bq bq bc aa lW aa dL aa ae lX ?_));exact hW.out)):p:=f ⟨h⟩
theorem Ak{p:Prop}(h:p:=by(apply FG;(exact rfl);(focus((apply an;(conv=>lhs;whnf);(first|done|exact rfl)))))):p:=h
theorem zs42{p q:Prop}(h:q)(f:Wq q->p:=by(intro hW;((first|refine cE rfl rfl rfl aa Ak aa aa ?_|((try refine aB ?_);refine aL1 rfl rfl rfl Ak ?_)));exact hW.out)):p:=f ⟨h⟩
theorem zb20{p:Prop}(h:p:=by(first|(apply cA;(exact rfl);(focus((apply an;(conv=>lhs;whnf);(first|done|exact rfl))));(exact bu);(exact rfl))|(apply He;(exact rfl);(focus((apply an;(conv=>lhs;whnf);(first|done|exact rfl))));(exact bu);(kernel_rfl)))):p:=h
theorem mW{p q:Prop}(h:q)(f:Wq q->p:=by(intro hW;(refine aL1 rfl rfl rfl zb20 ?_);exact hW.out)):p:=f ⟨h⟩
theorem Af{p:Prop}(h:p:=by rw[HB5.out];simp;omega):p:=h
theorem og{p:Prop}(h:p:=by(apply ud;(exact rfl);(focus((apply an;(conv=>lhs;whnf);(first|done|exact rfl))));(exact rfl);(assumption);(exact rfl))):p:=h
theorem od{p q:Prop}(h:q)(f:Wq q->p:=by(intro hW;((first|refine cE rfl rfl rfl aa og aa aa ?_|((try refine aB ?_);refine aL1 rfl rfl rfl og ?_)));exact hW.out)):p:=f ⟨h⟩
theorem fI{p:Prop}(h:p:=by(apply aY;(conv=>lhs;whnf);(first|done|exact rfl))):p:=h
theorem zb31{p:Prop}(h:p:=by first|with_reducible rfl|exact we (by omega)|exact we (by simp)|(apply we;omega)|(apply aK;(first|(apply decide_eq_false;omega)|(apply decide_eq_true;omega)|(simp<;>omega)))):p:=h
theorem au{p:Prop}(h:p:=by(repeat(first|exact Ib|refine EH fI zb31 ?_))):p:=h
theorem qu{p:Prop}(h:p:=by first|exact rfl|(apply wB;intro _;exact rfl)|(apply IC;apply wB;intro _;exact rfl)|(apply nw_drop;apply wB;intro _;exact rfl)|(simp[D.nw];done)):p:=h
theorem qt{p:Prop}(h:p:=by(repeat(first|exact Hz|apply HH|(apply Er;(exact rfl))))):p:=h
theorem zs16{p q:Prop}(h:q)(f:Wq q->p:=by(intro hW;((refine lk rfl rfl rfl rfl bq bq bc aa qu ae ae (by(first|omega|(simp;done)|(simp;omega))) bZ qt ?_));exact hW.out)):p:=f ⟨h⟩
theorem zs15{p q:Prop}(h:q)(f:Wq q->p:=by(intro hW;(refine aL1 rfl rfl rfl (by(apply Bg;(exact rfl);(focus((apply an;(conv=>lhs;whnf);(first|done|exact rfl))));(focus((apply an;(conv=>lhs;whnf);(first|done|exact rfl))));(kernel_rfl);(kernel_rfl);(focus(first|exact Int.toNat_natCast _|exact rfl));(focus(first|omega|(simp;omega))))) ?_);exact hW.out)):p:=f ⟨h⟩
theorem zs14{p q:Prop}(h:q)(f:Wq q->p:=by(intro hW;((refine ur (k:=18) (wd:=1) (T:=Tryz.prog.elem 40) rfl rfl rfl rfl ae ae aa aa bZ ?_));exact hW.out)):p:=f ⟨h⟩
theorem Gy{p q:Prop}(h:q)(f:Wq q->p:=by(intro hW;((refine gar ?_;refine zs14 ?_;refine zs4 ?_;refine zs4 ?_;refine zs15 ?_;refine zs16 ?_;refine zs6 ?_;refine af ?_));exact hW.out)):p:=f ⟨h⟩
theorem Ad{p q:Prop}(h:q)(f:Wq q->p:=by(intro hW;((first|(refine aLs rfl rfl rfl rfl ?_ ?_;(focus(apply aY;(conv=>lhs;whnf);(first|done|exact rfl|(apply aK;(first|(apply decide_eq_true;omega)|(apply decide_eq_false;omega)|assumption|(simp;done)))))))|refine aLw rfl rfl rfl rfl bK zb20 ?_));exact hW.out)):p:=f ⟨h⟩
theorem zb0{p:Prop}(h:p:=by(first|(apply sI;(exact rfl);(focus((apply an;(conv=>lhs;whnf);(first|done|exact rfl))));(exact rfl);(focus((first|exact fb|exact eY|exact eZ|exact wd_pt|exact rfl)));(exact rfl);(kernel_rfl);(kernel_rfl))|(apply iU;(exact rfl);(focus((apply an;(conv=>lhs;whnf);(first|done|exact rfl))));(focus((repeat(first|exact List.mem_cons_self|refine List.mem_cons_of_mem _ ?_))));(exact im);(exact rfl);(exact rfl);(focus((first|exact fb|exact eY|exact eZ|exact wd_pt|exact rfl)));(exact rfl);(kernel_rfl);(kernel_rfl))|(apply jC;(exact rfl);(focus((apply an;(conv=>lhs;whnf);(first|done|exact rfl))));(focus((repeat(first|exact List.mem_cons_self|refine List.mem_cons_of_mem _ ?_))));(exact rfl);(focus((first|exact im|(apply nJ;assumption)|assumption|(apply wI;(focus assumption);(focus assumption))|exact rfl)));(exact rfl);(focus((first|exact fb|exact eY|exact eZ|exact wd_pt|exact rfl)));(exact rfl);(kernel_rfl);(kernel_rfl))|(apply kj;(exact rfl);(focus((apply an;(conv=>lhs;whnf);(first|done|exact rfl))));(focus((repeat(first|exact List.mem_cons_self|refine List.mem_cons_of_mem _ ?_))));(exact rfl);(focus(first|(apply ep;assumption)|exact rfl));(assumption);(kernel_rfl);(kernel_rfl)))):p:=h
theorem zs18{p q:Prop}(h:q)(f:Wq q->p:=by(intro hW;((first|(refine aLs rfl rfl rfl rfl ?_ ?_;(focus(apply aY;(conv=>lhs;whnf);(first|done|exact rfl|(apply aK;(first|(apply decide_eq_true;omega)|(apply decide_eq_false;omega)|assumption|(simp;done)))))))|refine aLw rfl rfl rfl rfl bK zb0 ?_));exact hW.out)):p:=f ⟨h⟩
theorem iC{p q:Prop}(h:q)(f:Wq q->p:=by(intro hW;(refine aL1 rfl rfl rfl (by(first|(apply xA;(exact rfl);(focus((apply an;(conv=>lhs;whnf);(first|done|exact rfl))));(focus(first|exact rfl|(apply decide_eq_true;omega)|assumption|(simp;done)));(focus((apply an;(conv=>lhs;whnf);(first|done|exact rfl)))))|(apply xB;(exact rfl);(focus((apply an;(conv=>lhs;whnf);(first|done|exact rfl))));(focus(first|exact rfl|(apply decide_eq_false;omega)|assumption|(simp;done)));(exact gw))|(apply d_pick;(exact rfl);(focus((apply an;(conv=>lhs;whnf);(first|done|exact rfl))));(focus((apply an;(conv=>lhs;whnf);(first|done|exact rfl))));(exact gw);(exact rfl)))) ?_);exact hW.out)):p:=f ⟨h⟩
theorem zb3{p:Prop}(h:p:=by(first|(apply iS;(exact rfl);(focus((apply an;(conv=>lhs;whnf);(first|done|exact rfl))));(focus((apply an;(conv=>lhs;whnf);(first|done|exact rfl))));(kernel_rfl);(kernel_rfl);(omega);(focus((first|(apply wI;(focus assumption);(focus assumption))|(apply get_map;assumption)|(apply get_own;assumption)))))|(apply fF;(exact rfl);(focus((apply an;(conv=>lhs;whnf);(first|done|exact rfl))));(focus((apply an;(conv=>lhs;whnf);(first|done|exact rfl))));(focus((repeat(first|exact List.mem_cons_self|refine List.mem_cons_of_mem _ ?_))));(kernel_rfl);(kernel_rfl);(focus(first|omega|(simp;omega)));(focus(first|(apply ep;assumption)|exact rfl))))):p:=h
theorem zs17{p q:Prop}(h:q)(f:Wq q->p:=by(intro hW;((first|(refine aLs rfl rfl rfl rfl ?_ ?_;(focus(apply aY;(conv=>lhs;whnf);(first|done|exact rfl|(apply aK;(first|(apply decide_eq_true;omega)|(apply decide_eq_false;omega)|assumption|(simp;done)))))))|refine aLw rfl rfl rfl rfl bK zb3 ?_));exact hW.out)):p:=f ⟨h⟩
theorem zs8{p q:Prop}(h:q)(f:Wq q->p:=by(intro hW;((first|(refine aLs rfl rfl rfl rfl ?_ ?_;(focus(apply aY;(conv=>lhs;whnf);(first|done|exact rfl|(apply aK;(first|(apply decide_eq_true;omega)|(apply decide_eq_false;omega)|assumption|(simp;done)))))))|refine aLw rfl rfl rfl rfl bK kG ?_));exact hW.out)):p:=f ⟨h⟩
theorem tw{p:Prop}(h:p:=by(apply cA;(exact rfl);(focus((apply an;(conv=>lhs;whnf);(first|done|exact rfl))));(exact bu);(exact rfl))):p:=h
theorem zs7{p q:Prop}(h:q)(f:Wq q->p:=by(intro hW;(refine aL1 rfl rfl rfl tw ?_);exact hW.out)):p:=f ⟨h⟩
theorem Gx{p q:Prop}(h:q)(f:Wq q->p:=by(intro hW;((refine gar ?_;refine zs4 ?_;refine zs7 ?_;refine zs4 ?_;refine zs8 ?_;refine zs8 ?_;refine zs9 ?_;refine zs17 ?_;refine zs18 ?_;refine Ad ?_;refine iC ?_;refine af ?_));exact hW.out)):p:=f ⟨h⟩
theorem zs19{p q:Prop}(h:q)(f:Wq q->p:=by(intro hW;(refine aL1 rfl rfl rfl zb21 ?_);exact hW.out)):p:=f ⟨h⟩
theorem pq{p q:Prop}(h:q)(f:Wq q->p:=by(intro hW;((refine gar ?_;refine zs4 ?_;refine zs19 ?_;refine zs6 ?_;refine af ?_));exact hW.out)):p:=f ⟨h⟩
theorem zb30{p:Prop}(h:p:=by(apply Km;(exact rfl);(focus((apply an;(conv=>lhs;whnf);(first|done|exact rfl))));(focus((apply an;(conv=>lhs;whnf);(first|done|exact rfl))));(kernel_rfl);(kernel_rfl))):p:=h
theorem zb8{p:Prop}(h:p:=by(first|(apply Kj;(exact rfl);(focus((apply an;(conv=>lhs;whnf);(first|done|exact rfl))));(exact bu);(exact rfl);(exact rfl);(focus(apply py;(try simp only[]);omega)))|(apply d_quoP;(exact rfl);(focus((apply an;(conv=>lhs;whnf);(first|done|exact rfl))));(exact bu);(omega))|(apply d_quo;(exact rfl);(focus((apply an;(conv=>lhs;whnf);(first|done|exact rfl))));(exact bu);(omega))|(apply Dw;(exact rfl);(focus((apply an;(conv=>lhs;whnf);(first|done|exact rfl))));(exact bu);(focus(first|omega|decide))))):p:=h
theorem ay{p:Prop}(h:p:=by(repeat(first|exact EF|(apply B8;(focus(repeat(first|exact List.mem_cons_self|refine List.mem_cons_of_mem _ ?_))))))):p:=h
theorem cw{p q:Prop}(h:q)(f:Wq q->p:=by(intro hW;((refine gar ?_;refine zs3 ?_;refine af ?_));exact hW.out)):p:=f ⟨h⟩
theorem az{p q:Prop}(h:q)(f:Wq q->p:=by(intro hW;((apply lR;(focus(first|(apply an;(conv=>lhs;whnf);(first|done|exact rfl))|with_reducible exact bu|with_reducible exact gw|with_reducible exact pK|exact op_zero));(focus(first|with_reducible rfl|(apply decide_eq_false;omega)|assumption|(simp<;>omega)))));exact hW.out)):p:=f ⟨h⟩
theorem zA{p q:Prop}(h:q)(f:Wq q->p:=by(intro hW;(refine aL1 rfl rfl rfl (by(first|(apply Hg;(exact rfl);(focus((apply an;(conv=>lhs;whnf);(first|done|exact rfl))));(exact bu);(omega))|(apply cA;(exact rfl);(focus((apply an;(conv=>lhs;whnf);(first|done|exact rfl))));(exact bu);(exact rfl)))) ?_);exact hW.out)):p:=f ⟨h⟩
theorem aZ{p q:Prop}(h:q)(f:Wq q->p:=by(intro hW;((refine gar ?_;refine zs4 ?_;refine zA ?_;refine zs6 ?_;refine af ?_));exact hW.out)):p:=f ⟨h⟩
theorem bJ{p:Prop}(h:p:=by(repeat(first|exact EO|(apply Cj;(exact rfl))|apply EP|apply Il))):p:=h
theorem cZ{p q:Prop}(h:q)(f:Wq q->p:=by(intro hW;(refine aL1 rfl rfl rfl og ?_);exact hW.out)):p:=f ⟨h⟩
theorem zz{p q:Prop}(h:q)(f:Wq q->p:=by(intro hW;((refine kE (k:=2) (z:=(.agg #[.bool false,.slice none 0 0])) (d:=(.nm 0)) rfl rfl rfl rfl rfl ae aa aa dL aa aa bZ ?_));exact hW.out)):p:=f ⟨h⟩
theorem zs25{p q:Prop}(h:q)(f:Wq q->p:=by(intro hW;((first|(apply ai 16;(focus kernel_rfl);(decide+kernel))|(apply ai 15;(focus kernel_rfl);(decide+kernel))|(apply ai 14;(focus kernel_rfl);(decide+kernel))|(apply ai 13;(focus kernel_rfl);(decide+kernel))|(apply ai 12;(focus kernel_rfl);(decide+kernel))|(apply ai 11;(focus kernel_rfl);(decide+kernel))|(apply ai 10;(focus kernel_rfl);(decide+kernel))|(apply ai 9;(focus kernel_rfl);(decide+kernel)));simp only[List.take_succ_cons,List.take_zero,List.drop_succ_cons,List.drop_zero]);exact hW.out)):p:=f ⟨h⟩
theorem zb17{p:Prop}(h:p:=by(first|(apply FM;(exact rfl);(focus((apply an;(conv=>lhs;whnf);(first|done|exact rfl))));(kernel_rfl);(kernel_rfl))|(apply d_field_at;(exact rfl);(focus((apply an;(conv=>lhs;whnf);(first|done|exact rfl))));(kernel_rfl);(exact rfl);(kernel_rfl)))):p:=h
theorem oc{p q:Prop}(h:q)(f:Wq q->p:=by(intro hW;(refine aL1 rfl rfl rfl zb17 ?_);exact hW.out)):p:=f ⟨h⟩
theorem Aa{p q:Prop}(h:q)(f:Wq q->p:=by(intro hW;((refine gar ?_;refine oc ?_;refine br ?_;refine af ?_));exact hW.out)):p:=f ⟨h⟩
theorem zs47{p q:Prop}(h:q)(f:Wq q->p:=by(intro hW;(refine aL1 rfl rfl rfl (by(apply kC;(exact rfl);(focus((apply an;(conv=>lhs;whnf);(first|done|exact rfl))));(focus((apply an;(conv=>lhs;whnf);(first|done|exact rfl))));(exact rfl);(exact rfl);(focus((first|exact M l (by omega) h1 h2)));(exact rfl))) ?_);exact hW.out)):p:=f ⟨h⟩
theorem av{p q:Prop}(h:q)(f:Wq q->p:=by(intro hW;((apply lj;(focus(first|(apply an;(conv=>lhs;whnf);(first|done|exact rfl))|with_reducible exact bu|with_reducible exact gw|with_reducible exact pK|exact op_zero));(focus(first|with_reducible rfl|(apply decide_eq_true;omega)|assumption|(simp<;>omega)))));exact hW.out)):p:=f ⟨h⟩
theorem bI{p:Prop}(h:p:=by(repeat(first|exact drop_nil|apply FE|(apply Dr;(exact rfl))))):p:=h
theorem aQ{p q:Prop}(h:q)(f:Wq q->p:=by(intro hW;((first|refine cE rfl rfl rfl aa kG aa aa ?_|((try refine aB ?_);refine aL1 rfl rfl rfl kG ?_)));exact hW.out)):p:=f ⟨h⟩
theorem vE{p q:Prop}(h:q)(f:Wq q->p:=by(intro hW;((first|refine cE rfl rfl rfl aa zb17 aa aa ?_|((try refine aB ?_);refine aL1 rfl rfl rfl zb17 ?_)));exact hW.out)):p:=f ⟨h⟩
theorem zb6{p:Prop}(h:p:=by(first|(apply(xC (q':=.i64));(exact rfl);(focus((apply an;(conv=>lhs;whnf);(first|done|exact rfl))));(kernel_rfl);(kernel_rfl);(focus(first|(apply py;(try simp only[]);omega)|exact rfl)))|(apply(xC (q':=.u32));(exact rfl);(focus((apply an;(conv=>lhs;whnf);(first|done|exact rfl))));(kernel_rfl);(kernel_rfl);(focus(first|(apply py;(try simp only[]);omega)|exact rfl)))|(apply(xC (q':=.u64));(exact rfl);(focus((apply an;(conv=>lhs;whnf);(first|done|exact rfl))));(kernel_rfl);(kernel_rfl);(focus(first|(apply py;(try simp only[]);omega)|exact rfl))))):p:=h
theorem zB{p q:Prop}(h:q)(f:Wq q->p:=by(intro hW;((first|refine cE rfl rfl rfl aa zb6 aa aa ?_|((try refine aB ?_);refine aL1 rfl rfl rfl zb6 ?_)));exact hW.out)):p:=f ⟨h⟩
theorem eW{p q:Prop}(h:q)(f:Wq q->p:=by(intro hW;((refine gar ?_;refine zs4 ?_;refine zs7 ?_;refine af ?_));exact hW.out)):p:=f ⟨h⟩
theorem lu{p q:Prop}(h:q)(f:Wq q->p:=by(intro hW;((refine gar ?_;refine zs4 ?_;refine cZ ?_;refine zs6 ?_;refine af ?_));exact hW.out)):p:=f ⟨h⟩
theorem gU{p q:Prop}(h:q)(f:Wq q->p:=by(intro hW;(refine aL1 rfl rfl rfl (by(apply FJ;(exact rfl);(focus((apply an;(conv=>lhs;whnf);(first|done|exact rfl))));(exact rfl))) ?_);exact hW.out)):p:=f ⟨h⟩
theorem jb{p:Prop}(h:p:=by(first|(apply an;(conv=>lhs;whnf);(first|done|exact rfl))|with_reducible exact bu|with_reducible exact gw|with_reducible exact pK|exact op_zero)):p:=h
theorem mX{p q:Prop}(h:q)(f:Wq q->p:=by(intro hW;((first|refine cE rfl rfl rfl aa tv aa aa ?_|((try refine aB ?_);refine aL1 rfl rfl rfl tv ?_)));exact hW.out)):p:=f ⟨h⟩
theorem vg{p q:Prop}(h:q)(f:Wq q->p:=by(intro hW;((refine gar ?_;refine gU ?_;refine zz ?_;refine af ?_));exact hW.out)):p:=f ⟨h⟩
theorem zs41{p q:Prop}(h:q)(f:Wq q->p:=by(intro hW;((first|(apply ai 6;(focus kernel_rfl);(decide+kernel))|(apply ai 5;(focus kernel_rfl);(decide+kernel))|(apply ai 4;(focus kernel_rfl);(decide+kernel))|(apply ai 3;(focus kernel_rfl);(decide+kernel))|(apply ai 2;(focus kernel_rfl);(decide+kernel))|(apply ai 1;(focus kernel_rfl);(decide+kernel)));simp only[List.take_succ_cons,List.take_zero,List.drop_succ_cons,List.drop_zero]);exact hW.out)):p:=f ⟨h⟩
theorem sZ{p q:Prop}(h:q)(f:Wq q->p:=by(intro hW;(((try refine aB ?_);(refine kD (i:=0) rfl rfl rfl bq bq bc aa lW aa dL aa ae lX ?_)));exact hW.out)):p:=f ⟨h⟩
theorem zb10{p:Prop}(h:p:=by(first|(apply Dv;(exact rfl);(focus((apply an;(conv=>lhs;whnf);(first|done|exact rfl))));(exact bu);(exact rfl);(exact rfl))|(apply Du;(exact rfl);(focus((apply an;(conv=>lhs;whnf);(first|done|exact rfl))));(exact bu);(omega))|(apply sH;(exact rfl);(focus((apply an;(conv=>lhs;whnf);(first|done|exact rfl))));(exact bu);(focus(first|omega|decide))))):p:=h
theorem sY{p q:Prop}(h:q)(f:Wq q->p:=by(intro hW;(refine aL1 rfl rfl rfl zb10 ?_);exact hW.out)):p:=f ⟨h⟩
theorem oh{p:Prop}(h:p:=by(apply kC;(exact rfl);(focus((apply an;(conv=>lhs;whnf);(first|done|exact rfl))));(focus((apply an;(conv=>lhs;whnf);(first|done|exact rfl))));(exact rfl);(exact rfl);(assumption);(exact rfl))):p:=h
theorem gT{p q:Prop}(h:q)(f:Wq q->p:=by(intro hW;((first|refine cE rfl rfl rfl aa oh aa aa ?_|((try refine aB ?_);refine aL1 rfl rfl rfl oh ?_)));exact hW.out)):p:=f ⟨h⟩
theorem vD{p q:Prop}(h:q)(f:Wq q->p:=by(intro hW;((refine lk rfl rfl rfl rfl bq bq bc aa qu ae ae (by(simp only[List.length_map,List.length_cons,List.length_nil];omega)) bZ qt ?_));exact hW.out)):p:=f ⟨h⟩
theorem Am{p:Prop}(h:p:=by(apply Hc;(exact rfl);(focus((apply an;(conv=>lhs;whnf);(first|done|exact rfl))));(exact rfl);(focus((first|exact fb|exact eY|exact eZ|exact wd_pt|exact rfl)));(kernel_rfl);(kernel_rfl);(exact rfl);(exact rfl))):p:=h
theorem mV{p q:Prop}(h:q)(f:Wq q->p:=by(intro hW;(refine aL1 rfl rfl rfl Am ?_);exact hW.out)):p:=f ⟨h⟩
theorem po{p q:Prop}(h:q)(f:Wq q->p:=by(intro hW;((refine gar ?_;refine zs4 ?_;refine zs4 ?_;refine mV ?_;refine vD ?_;refine zs6 ?_;refine af ?_));exact hW.out)):p:=f ⟨h⟩
theorem vF{p q:Prop}(h:q)(f:Wq q->p:=by(intro hW;((first|(refine aLs rfl rfl rfl rfl ?_ ?_;(focus(apply aY;(conv=>lhs;whnf);(first|done|exact rfl|(apply aK;(first|(apply decide_eq_true;omega)|(apply decide_eq_false;omega)|assumption|(simp;done)))))))|refine aLw rfl rfl rfl rfl bK zb4 ?_));exact hW.out)):p:=f ⟨h⟩
theorem zs53{p q:Prop}(h:q)(f:Wq q->p:=by(intro hW;(refine aL1 rfl rfl rfl zb8 ?_);exact hW.out)):p:=f ⟨h⟩
theorem rn{p q:Prop}(h:q)(f:Wq q->p:=by(intro hW;((refine gar ?_;refine zs4 ?_;refine zs53 ?_;refine zs6 ?_;refine af ?_));exact hW.out)):p:=f ⟨h⟩
theorem qo{p q:Prop}(h:q)(f:Wq q->p:=by(intro hW;((first|(refine aLs rfl rfl rfl rfl ?_ ?_;(focus(apply aY;(conv=>lhs;whnf);(first|done|exact rfl|(apply aK;(first|(apply decide_eq_true;omega)|(apply decide_eq_false;omega)|assumption|(simp;done)))))))|refine aLw rfl rfl rfl rfl bK zb1 ?_));exact hW.out)):p:=f ⟨h⟩
theorem zs36{p q:Prop}(h:q)(f:Wq q->p:=by(intro hW;((first|(apply ai 5;(focus kernel_rfl);(decide+kernel))|(apply ai 4;(focus kernel_rfl);(decide+kernel))|(apply ai 3;(focus kernel_rfl);(decide+kernel))|(apply ai 2;(focus kernel_rfl);(decide+kernel))|(apply ai 1;(focus kernel_rfl);(decide+kernel)));simp only[List.take_succ_cons,List.take_zero,List.drop_succ_cons,List.drop_zero]);exact hW.out)):p:=f ⟨h⟩
end
section
open Go.RowKit Go.BigFrame
attribute [local go_sem ↓] Go.wp_at_zero Go.wp_at_succ
def pk:List Nat->List Nat
 |[]=>[]
 |[x]=>[x]
 |x::y::l=>(x+y*65536)::pk l
theorem GZ:∀l:List Nat,Dg.vl B32 (pk l)=Dg.vl B16 l
 |[]=>rfl
 |[x]=>rfl
 |x::y::l=>by
  simp only[pk,Dg.cJ,GZ l,B16,B32];omega
theorem CH:∀{l:List Nat},Dg.dig B16 l->Dg.dig B32 (pk l)
 |[],_=>fun x h=>by cases h
 |[x],h=>fun y hy=>by
  simp only[pk,List.mem_singleton]at hy;have:=h x List.mem_cons_self;subst hy;show y<4294967296;have:y<65536:=this;omega
 |x::y::l,h=>by
  have h1:=Dg.ic h;have h2:=Dg.ic h1.2;have h3:=CH h2.2;have h4:x<65536:=h1.1;have h5:y<65536:=h2.1;intro z hz;simp only[pk,List.mem_cons]at hz;rcases hz with rfl|hz
  ·show x+y*65536<4294967296;omega
  ·exact h3 z hz
theorem G1:∀{l:List Nat},l≠[]->pk l≠[]
 |[],h=>absurd rfl h
 |[x],_=>by simp[pk]
 |x::y::l,_=>by simp[pk]
theorem yF:∀{l:List Nat},l.getLast?≠some 0->(pk l).getLast?≠some 0
 |[],h=>h
 |[x],h=>h
 |x::y::[],h=>by
  simp[pk]at h⊢;omega
 |x::y::z::l,h=>by
  have h1:(z::l).getLast?≠some 0:=by simpa using h
  have h2:=yF h1;have h3:pk (z::l)≠[]:=G1 (by simp);simp only[pk];rw[List.getLast?_cons];obtain⟨u,hu⟩:∃u,(pk (z::l)).getLast?=some u:=by
   cases h4:(pk (z::l)).getLast? with
   |none=>rw[List.getLast?_eq_none_iff]at h4;exact absurd h4 h3
   |some u=>exact⟨u,rfl⟩
  rw[hu]at h2⊢;simpa using h2
theorem pk_nf{l:List Nat}(h:Dg.NF B16 l):Dg.NF B32 (pk l):=⟨CH h.dg,yF h.nz⟩
theorem yE:∀{l:List Nat} {k x:Nat},l[2*k]?=some x->pk (l.take (2*k+2))=pk (l.take (2*k))++[x+l.getD (2*k+1) 0*65536]
 |[],k,x,h=>by simp at h
 |[y],0,x,h=>by
  simp at h;subst h;simp[pk]
 |[y],k+1,x,h=>by simp at h
 |y::z::l,0,x,h=>by
  simp at h;subst h;simp[pk]
 |y::z::l,k+1,x,h=>by
  have e:2*(k+1)=2*k+1+1:=by omega
  rw[e]at h⊢;have h1:l[2*k]?=some x:=by simpa using h
  have h2:=yE h1;simp only[List.take_succ_cons,pk,List.cons_append,List.getD_cons_succ,h2]
theorem Fa{l:List Nat}{k x:Nat}(hk:k%2=0)(h:l[k]?=some x):pk (l.take (k+2))=pk (l.take k)++[x+l.getD (k+1) 0*65536]:=by
 obtain⟨j,rfl⟩:∃j,k=2*j:=⟨k/2,by omega⟩;exact yE h
theorem JV{l:List Nat}{k:Nat}(h:l.length<=k):pk (l.take k)=pk l:=by rw[List.take_of_length_le h]
theorem CG:∀l:List Nat,(pk l).length<=l.length
 |[]=>Nat.le_refl _
 |[x]=>Nat.le_refl _
 |x::y::l=>by have:=CG l;simp[pk];omega
theorem dv.Cl{w:World}{base:Nat}{v:Value}{l:List Nat}(h:dv w base v l){g o:Nat}(u:Value)(hg:g<base):dv (w.setCell ⟨g,o,none⟩ u) base v l:=by
 refine World.ownsRow.kept h (fX w g o u) ?_
 cases e:v.ownBlock with
 |none=>exact .inl rfl
 |some k=>
  right;intro e2;have:=(World.ownsRow.lt h k e).1;cases e2;omega
set_option maxRecDepth 10000 in
set_option maxHeartbeats 8000000 in
theorem Dd(s:Bool)(l:List Nat)(v:Value)(hl:l.length<=2000000000000)(hd:Dg.dig B16 l)(w:World)(TR0:∀W,Below w.heap.size w W->Calls Tryz.prog 188 #[v] W fun e w'=>HRes w' e (Dg.vl B16 l)/\Below W.heap.size W w'):
  Calls Tryz.prog 150 #[.bool s,v] w fun e w'=>(∃x,e= .returned (.agg #[.bool x.s,.slice x.a x.n x.cap])/\IZ w' x (Dg.iv s (Dg.vl B16 l)))/\Below w.heap.size w w':=by
 have TR:=Lib.hid TR0;clear TR0;have hN:=Dg.bf hd;have LB:Hid (∀m:List Nat,Dg.NF B16 m->Dg.vl B16 m=Dg.vl B16 l->m.length<=2000000000000):=fun m h1 h2=>by
  rcases Nat.lt_or_ge l.length m.length with h3|h3
  ·obtain⟨k,hk⟩:∃k,m.length=k+1:=⟨m.length-1,by omega⟩;have h4:=Dg.iK hk h1;have h5:=Dg.bf hd;have h6:B16^l.length<=B16^k:=Nat.pow_le_pow_right (by decide) (by omega);omega
  ·omega
 generalize hNe:Dg.vl B16 l=N at*;clear hNe hN hd;obtain⟨d,hd⟩:∃d,d=decide (N≠0):=⟨_,rfl⟩;have fin:∀(c:Bool),(c=(s&&d))->∀(m:List Nat) (w':World) (v1:Value) (base:Nat),Dg.NF B16 m->Dg.vl B16 m=N->dv w' base v1 (pk m)->∃x:IV,v1= .slice x.a x.n x.cap/\x.s=c/\IZ w' x (Dg.iv s N):=fun c hc m w' v1 base h1 h2 h3=>by
  obtain⟨a,cap,e,h4,_,h5,_⟩:=h3.ws;refine⟨⟨c,a,(pk m).length,cap⟩,e,rfl,pk m,⟨rfl,h4,h5,pk_nf h1⟩,fun e=>?_,?_⟩
  ·have:m=[]:=Decidable.byContradiction fun hm=>G1 hm e;subst this;have:N=0:=h2.symm;subst this;simp[hc,hd]
  ·rw[GZ,h2];by_cases h0:N=0
   ·subst h0;rw[Dg.mI,Dg.mI]
   ·simp[hc,hd,h0]
 have FIN:=Lib.hid fin;clear fin;have key:∀m,Dg.NF B16 m->Dg.vl B16 m=N->decide ((0:Int)<(m.length:Int))=d:=fun m h1 h2=>by
  have h3:=Dg.pN h1 (by decide);rw[hd,decide_eq_decide,<-h2];constructor
  ·intro h4 h5;rw[h3.1 h5]at h4;simp at h4
  ·intro h4;have:m≠[]:=fun e=>h4 (h3.2 e);have:=List.length_pos_iff.2 this;omega
 have KEY:=Lib.hid key;clear key hd;obtain⟨c0,hc0⟩:∃c0,c0=(s&&d):=⟨_,rfl⟩;have W1b:∀(W:World) (b x:Nat),b=W.heap.size->WS (W.alloc (.cells #[.int .u32 (x:Int)] 138)) (some ⟨b,0,none⟩) [x]:=fun W b x hb=>yi W _ b x hb;have WB:=Lib.hid W1b;have FIN1:=Lib.hid (FIN.out c0 hc0);clear W1b FIN;cases s<;>cases d;all_goals
  simp only[Bool.and_false,Bool.and_true]at hc0;have HC0:=Lib.hid hc0;clear hc0
  go_enter Tryz.func150,Tryz.ntmps150
  go_wp2_with (first|(go_at_call 188;(with_reducible refine(TR.out _ ?_).mono ?_);(exact bel);rintro e w1 ⟨⟨v1,m,rfl,h1,h2,h3⟩,hb1⟩;obtain⟨a1,c1,rfl,hle1,hv1⟩:=h1.parts;have hdf:=KEY.out m h2 h3;have HM:=Lib.hid (And.intro h2 h3);have hml:=LB.out m h2 h3;clear h1 h2 h3;obtain⟨g1,rfl⟩:=mob hb1;clear hb1;have HS1:=Lib.hid hv1;clear hv1;(obtain⟨q,hq⟩:∃q,q=m.length:=(⟨_,rfl⟩));have HQ:=Lib.hid hq;rw[<-hq]at hdf hml⊢;clear hq hle1))
  have hb5:∃b5,b5=w.heap.size+1+g1.2.size:=⟨_,rfl⟩;obtain⟨b5,hb5⟩:=hb5;have HB5:=Lib.hid hb5;have hqb:(q:Int)<=2000000000000:=by omega
  rw[<-hb5];clear hb5
  go_loopw [6] (fun i wr=>∃(k:Nat) (v:Value),k<=q+1/\i= .int .i64 ((k:Int))/\Hid (k%2=0)/\wr.cell? ⟨b5,0,none⟩=some (.bool c0)/\wr.cell? ⟨b5,1,none⟩=some v/\wr.frozen? ⟨b5,1,none⟩=false/\b5<wr.heap.size/\Hid (dv wr (b5+1) v (pk (m.take k))/\Below b5 (more (w.alloc (.cells #[.bool false,.slice none 0 0] 62)) g1) wr)) (fun i _=>q+1-(intOf i).toNat)
  case atStart=>
   refine⟨0,.slice none 0 0,by omega,rfl,rfl,?_,?_,?_,?_,dv.nil _ _,?_⟩
   ·rw[HB5.out,HC0.out];go_simp<;>(simp at hdf;omega)
   ·rw[HB5.out];go_simp
   ·rw[HB5.out];go_simp
   ·rw[HB5.out];simp
   ·rw[HB5.out];refine Below.alloc (Below.refl _ _) ?_ _;simp
  case round=>
   obtain⟨k,v,hk,rfl,HK,k0,k1,kf,kl,HR⟩:=hrel;by_cases hkq:k<q
   ·have hkq2:(k:Int)<(q:Int):=by omega
    obtain⟨x,hx⟩:∃x,m[k]?=some x:=⟨_,List.getElem?_eq_getElem (by rw[<-HQ.out];exact hkq)⟩;have hxb:x<65536:=HM.out.1.dg x (List.mem_of_getElem? hx);rcases HS1.out.below (HR.out.2) (by rw[HB5.out];simp)with h0|⟨g,ha,hg,hcc⟩
    ·rw[h0]at hx;simp at hx
    have c2:=hcc k x hx;subst ha;have PK0:=Fa HK.out hx;obtain⟨z,hz⟩:∃z,z=x+m.getD (k+1) 0*65536:=⟨_,rfl⟩;rw[<-hz]at PK0;have HZ:=Lib.hid hz;have PK:=Lib.hid PK0;clear hz PK0;have hlen:(pk (m.take k)).length+[z].length<=4000000000000:=by
     have:=CG (m.take k);rw[List.length_take]at this;simp;omega
    by_cases hkq3:k+1<q
    ·have hkq4:(k:Int)+1<(q:Int):=by omega
     obtain⟨y,hy⟩:∃y,m[k+1]?=some y:=⟨_,List.getElem?_eq_getElem (by rw[<-HQ.out];exact hkq3)⟩;have hyb:y<65536:=HM.out.1.dg y (List.mem_of_getElem? hy);have c3:=hcc (k+1) y hy;have hyd:m.getD (k+1) 0=y:=by rw[List.getD_eq_getElem?_getD,hy];rfl
     have HY:Hid (∀(W:World) (b:Nat),b=W.heap.size->WS (W.alloc (.cells #[.int .u32 ((x:Int)+(y:Int)*65536)] 138)) (some ⟨b,0,none⟩) [z]):=fun W b hb=>by
      rw[show(x:Int)+(y:Int)*65536=(z:Int) by have:=HZ.out;rw[hyd]at this;omega];exact WB.out W b _ hb
     have hx2:(x:Int)<65536:=by omega
     have hy2:(y:Int)<65536:=by omega
     clear hcc hx hy hyd hxb hyb
     go_wp2_with (first|(at_builtin;go_must (refine gh (w0:=wr) (base:=b5+1) (v:=v) (l:=pk (m.take k)) ?_ ?_ ?_ 60 60 Tryz.underlying60 Tryz.underlying60 [z] wr.heap.size 1 1 rfl ?_ hlen rfl (.tmp 43) (.tmp 45) rfl (by rfl) (by rfl) ?_);(exact World.ownsRow.alloc HR.out.1 _);(exact bel);(focus(simp;omega));(exact HY.out _ _ (by simp));intro v4 w4 hown4 hB4 hz4;obtain⟨a4,cap4,hv4,_⟩:=hown4.ws;subst hv4;have HO4:=Lib.hid (And.intro hown4 hB4);have k4:=(hB4.cell (p:=⟨b5,0,none⟩) (Nat.lt_succ_self _)).trans k0;have k5:=(hB4.cell (p:=⟨b5,1,none⟩) (Nat.lt_succ_self _)).trans k1;have k6:=(hB4.frozen (p:=⟨b5,1,none⟩) (Nat.lt_succ_self _)).trans kf;clear hown4 hB4))
     go_roundw
     case rel=>
      refine⟨k+2,.slice a4 ((pk (m.take k)).length+1) cap4,by omega,by go_num,by have:=HK.out;show(k+2)%2=0;omega,?_,?_,?_,?_,?_,?_⟩
      ·rw[cL _ _ _ _ _ (by omega)];exact k4
      ·exact dT _ _ _ _ _ k5
      ·rw[World.frozen?_setCell];exact k6
      ·simp;omega
      ·have h1:=HO4.out.1;rw[show(pk (m.take k)++[z]).length=(pk (m.take k)).length+1 by simp]at h1;rw[<-PK.out]at h1;exact h1.Cl _ (Nat.lt_succ_self _)
      ·exact Below.setCell (Below.trans HR.out.2 (HO4.out.2.mono (Nat.le_succ _))) (Nat.le_refl _) _
     case measure=>simp[intOf];omega
    ·have hkq4:¬(k:Int)+1<(q:Int):=by omega
     have hyd:m.getD (k+1) 0=0:=by rw[List.getD_eq_getElem?_getD,List.getElem?_eq_none (by rw[<-HQ.out];omega)];rfl
     have HY:Hid (∀(W:World) (b:Nat),b=W.heap.size->WS (W.alloc (.cells #[.int .u32 (x:Int)] 138)) (some ⟨b,0,none⟩) [z]):=fun W b hb=>by
      rw[show(x:Int)=(z:Int) by have:=HZ.out;rw[hyd]at this;omega];exact WB.out W b z hb
     have hx2:(x:Int)<65536:=by omega
     clear hcc hx hyd hxb
     go_wp2_with (first|(at_builtin;go_must (refine gh (w0:=wr) (base:=b5+1) (v:=v) (l:=pk (m.take k)) ?_ ?_ ?_ 60 60 Tryz.underlying60 Tryz.underlying60 [z] wr.heap.size 1 1 rfl ?_ hlen rfl (.tmp 43) (.tmp 45) rfl (by rfl) (by rfl) ?_);(exact World.ownsRow.alloc HR.out.1 _);(exact bel);(focus(simp;omega));(exact HY.out _ _ (by simp));intro v4 w4 hown4 hB4 hz4;obtain⟨a4,cap4,hv4,_⟩:=hown4.ws;subst hv4;have HO4:=Lib.hid (And.intro hown4 hB4);have k4:=(hB4.cell (p:=⟨b5,0,none⟩) (Nat.lt_succ_self _)).trans k0;have k5:=(hB4.cell (p:=⟨b5,1,none⟩) (Nat.lt_succ_self _)).trans k1;have k6:=(hB4.frozen (p:=⟨b5,1,none⟩) (Nat.lt_succ_self _)).trans kf;clear hown4 hB4))
     go_roundw
     case rel=>
      refine⟨k+2,.slice a4 ((pk (m.take k)).length+1) cap4,by omega,by go_num,by have:=HK.out;show(k+2)%2=0;omega,?_,?_,?_,?_,?_,?_⟩
      ·rw[cL _ _ _ _ _ (by omega)];exact k4
      ·exact dT _ _ _ _ _ k5
      ·rw[World.frozen?_setCell];exact k6
      ·simp;omega
      ·have h1:=HO4.out.1;rw[show(pk (m.take k)++[z]).length=(pk (m.take k)).length+1 by simp]at h1;rw[<-PK.out]at h1;exact h1.Cl _ (Nat.lt_succ_self _)
      ·exact Below.setCell (Below.trans HR.out.2 (HO4.out.2.mono (Nat.le_succ _))) (Nat.le_refl _) _
     case measure=>simp[intOf];omega
   ·have hkq2:¬(k:Int)<(q:Int):=by omega
    have hfin:=FIN1.out m wr v (b5+1) HM.out.1 HM.out.2 (by have h1:=HR.out.1;rw[JV (by rw[<-HQ.out];omega)]at h1;exact h1);obtain⟨y,rfl,rfl,hy⟩:=hfin;have HY:=Lib.hid hy;have r0:wr.cell? ⟨w.heap.size,0,none⟩=some (.bool false):=(HR.out.2.cell (p:=⟨w.heap.size,0,none⟩) Af).trans (by go_simp);have r1:wr.cell? ⟨w.heap.size,1,none⟩=some (.slice none 0 0):=(HR.out.2.cell (p:=⟨w.heap.size,1,none⟩) Af).trans (by go_simp);have r2:wr.frozen? ⟨w.heap.size,0,none⟩=false:=(HR.out.2.frozen (p:=⟨w.heap.size,0,none⟩) Af).trans (by go_simp);have r3:wr.frozen? ⟨w.heap.size,1,none⟩=false:=(HR.out.2.frozen (p:=⟨w.heap.size,1,none⟩) Af).trans (by go_simp);have r4:w.heap.size<wr.heap.size:=by have:=kl;have:=HB5.out;omega
    have hB6:Below w.heap.size w wr:=Below.trans (b:=more (w.alloc (.cells #[.bool false,.slice none 0 0] 62)) g1) ah (HR.out.2.mono (by rw[HB5.out];omega));have HB6:=Lib.hid hB6;clear hy hB6
    go_wp2_with fail
    refine bodyPost_ret (v:=.agg #[.bool y.s,.slice y.a y.n y.cap]) (by simp[results,Tryz.results150,go_sem,r0,r1]) rfl ⟨⟨y,rfl,?_⟩,?_⟩
    ·refine(HY.out.off (Off.set wr w.heap.size 0 _) r0).off (Off.set _ w.heap.size 1 _) (c:=y.s) ?_;exact dT _ _ _ _ _ r0
    ·have hB:=HB6.out;exact bel
end
section
open Go.RowKit
namespace DW
theorem lJ{l:List Nat}{k:Nat}(h:k<l.length):l[k]?=some (l.getD k 0):=by rw[List.getD_eq_getElem?_getD,List.getElem?_eq_getElem h];rfl
theorem hd_of{l:List Nat}(h:Dg.dig 65536 l):l.take (tl l)=hd (Dg.vl 65536 l):=by
 obtain⟨h1,h2⟩:=H5 h;have:=Dg.xx (by decide) h1;rw[h2]at this;exact this.symm
abbrev trimQ(N:Nat)(e:Exit)(s:S):Prop:=(e= .normal\/e= .ret)/\s.gt 2= .own 18/\(18,(⟨3,1,(hd N).map hN⟩:Ow))∈s.ow
set_option maxRecDepth 20000 in
set_option maxHeartbeats 1000000 in
theorem BZ(X0:Nat->Prop)(l:List Nat)(hl:l.length<=900000000)(hdg:Dg.dig 65536 l):∃c,Tryz.f188.body=some c/\aW Tryz.prog X0 Tryz.f188.ntmps c (trimQ (Dg.vl 65536 l)) ⟨aE 0 [dN l],[]⟩:=by
 refine⟨_,rfl,?_⟩;have HT:=hd_of hdg;simp only[aE]
 (repeat(first|refine gk fun K hK=>?_|refine zs2 ?_));refine cw ?_;(repeat(first|refine gk fun K hK=>?_|refine zs2 ?_));(refine gar ?_;refine zs4 ?_;refine zs5 ?_;refine zs6 ?_;refine af ?_);(repeat(first|refine gk fun K hK=>?_|refine zs2 ?_))
 (refine aq (aj (sl':=[(0,dN l),(3,zI l.length)]) (ow':=[]) au ay) ?_)
 refine aF (fun k s=>tl l<=k/\k<=l.length/\s=⟨[(0,dN l),(3,zI k)],[]⟩) (m:=l.length) ⟨fL l,Nat.le_refl _,rfl⟩ fun k s hs=>?_;obtain⟨hk1,hk2,rfl⟩:=hs;have fin':∀(K:Exit->S->Prop),k=tl l->([]++(l.map hN).take k)=(hd (Dg.vl 65536 l)).map hN:=fun _ e=>by rw[List.nil_append,<-List.map_take,e,HT]
 by_cases hk0:k=0
 ·subst hk0;have ht:tl l=0:=by omega
  (repeat(first|refine gk fun K hK=>?_|refine zs2 ?_))
  (refine gar ?_;refine zs4 ?_;refine zs7 ?_;refine zs4 ?_;refine zs8 ?_;refine zs8 ?_;refine zs9 ?_;refine vF ?_;refine qo ?_;refine Ad ?_;refine iC ?_;refine af ?_)
  (repeat(first|refine gk fun K hK=>?_|refine zs2 ?_))
  refine lR jb (by rfl) ?_
  (repeat(first|refine gk fun K hK=>?_|refine zs2 ?_))
  refine Gy ?_
  (repeat(first|refine gk fun K hK=>?_|refine zs2 ?_))
  exact⟨.inr rfl,by rfl,by rw[<-fin' (fun _ _=>True) ht.symm];exact List.mem_cons_self⟩
 ·have hx:=lJ (l:=l) (k:=k-1) (by omega);obtain⟨x,hxd⟩:∃x,x=l.getD (k-1) 0:=⟨_,rfl⟩;rw[<-hxd]at hx;have hcast:(k:Int)-1=((k-1:Nat):Int):=by omega
  by_cases hx0:x=0
  ·have hlt : tl l < k := by
    rcases mB l with h|h
    ·omega
    ·apply Nat.lt_of_le_of_ne hk1;intro e;rw[e]at h;exact h (by rw[<-hxd,hx0])
   (repeat(first|refine gk fun K hK=>?_|refine zs2 ?_))
   refine Gx ?_
   (repeat(first|refine gk fun K hK=>?_|refine zs2 ?_))
   refine lj jb (decide_eq_true (by omega)) ?_
   (repeat(first|refine gk fun K hK=>?_|refine zs2 ?_))
   refine pq ?_;simp only[nx,inB];exact⟨k-1,_,by omega,(aj (sl':=[(0,dN l),(3,zI (k-1:Nat))]) (ow':=[]) au ay),by omega,by omega,rfl⟩
  ·have ht : k = tl l := by
    apply Nat.le_antisymm _ hk1;apply Nat.le_of_not_lt;intro h;exact hx0 (by rw[hxd];exact ko l (k-1) (by omega))
   (repeat(first|refine gk fun K hK=>?_|refine zs2 ?_))
   refine Gx ?_
   (repeat(first|refine gk fun K hK=>?_|refine zs2 ?_))
   refine lR jb (decide_eq_false (by omega)) ?_
   (repeat(first|refine gk fun K hK=>?_|refine zs2 ?_))
   refine Gy ?_
   (repeat(first|refine gk fun K hK=>?_|refine zs2 ?_))
   exact⟨.inr rfl,by rfl,by rw[<-fin' (fun _ _=>True) ht];exact List.mem_cons_self⟩
theorem B0(l:List Nat)(hl:l.length<=900000000)(hdg:Dg.dig 65536 l):Fn Tryz.prog 188 [dN l] (dN (hd (Dg.vl 65536 l))):=by
 refine bn Tryz.func188 ae rfl rfl rfl fun X0=>?_;obtain⟨c,h1,h2⟩:=BZ X0 l hl hdg;cases h1;refine h2.mono fun e s ⟨h3,h4,h5⟩=>?_;have:=I0 (P:=Tryz.prog) (X0:=X0) (n:=Tryz.f188.ntmps) (fn:=Tryz.f188) (s:=s) (t:=2) rfl h4 h5;rcases h3 with rfl|rfl<;>exact this
theorem Dc(l:List Nat)(hl:l.length<=900000000)(hdg:Dg.dig 65536 l)(X:Nat->Prop)(w:World)(v:Value)(hX:XW X w)(hv:AR X w (dN l) v):Calls Tryz.prog 188 #[v] w fun e w'=>HRes w' e (Dg.vl 65536 l)/\Below w.heap.size w w':=by
 obtain⟨c,h1,h2⟩:=BZ X l hl hdg;refine DD (ds:=[dN l]) Tryz.func188 h1 rfl rfl hX (by simp only[ATp];exact⟨v,[],rfl,hv,rfl⟩) _ h2 fun e s f a w' ⟨h3,h4,h5⟩ hh=>⟨h3,a.tmps.getD 2 undef,results_tmp rfl a.tmps _ _,⟨_,hd (Dg.vl 65536 l),rfl,?_,(Dg.bB (by decide) _).1,(Dg.bB (by decide) _).2⟩,hh.bl.low⟩;have h6:=hh.sl 2;rw[h4]at h6;simp only[SR]at h6;rw[h6];obtain⟨_,xs,⟨k1,k2⟩,k3⟩:=hh.ow _ h5;simp only[List.length_map]at k1 k2 k3;rcases k2 with⟨k4,k5⟩|⟨g,cap,cur,k4,_,hgg,hle,hm,hcs,htk⟩
 ·exact .inl ⟨k4,List.eq_nil_of_length_eq_zero k5⟩
 ·refine .inr ⟨g,cap,k4,hle,hm,(Array.getElem?_eq_some_iff.1 hgg).1,fun k x hk=>?_⟩;have hd':((hd (Dg.vl 65536 l)).map hN)[k]?=some (hN x):=by rw[List.getElem?_map,hk];rfl
  obtain⟨u,e1,_,_,e4⟩:=Els.at k3 hd';simp only[AR]at e1;have h7:=e4 0 u (by rw[eQ (by rw[e1.1];rfl)];rfl);rw[Nat.mul_one,Nat.add_zero]at h7;rw[cell_of_row w' g _ cur _ (0,0) hgg];have hlt:=(List.getElem?_eq_some_iff.1 h7).1;rw[<-htk,List.length_take]at hlt;rw[<-htk,List.getElem?_take_of_lt (by omega),Array.getElem?_toList]at h7;rw[h7,e1.1]
theorem wJ(s:Bool)(l:List Nat)(hl:l.length<=900000000)(hdg:Dg.dig 65536 l):Fn Tryz.prog 150 [.sc (.bool s),dN l] (.nm (Dg.iv s (Dg.vl 65536 l))):=by
 refine⟨Go.Proofs.enters_of Tryz.func150 ae rfl,fun X w vs hX hv=>?_⟩;simp only[ATp]at hv;obtain⟨v1,r1,e,h1,v2,r2,e2,h2,e3⟩:=hv;simp only[AR]at h1;rw[e2,e3,h1.1]at e;have:vs= #[.bool s,v2]:=Array.toList_inj.1 e;subst this;exact(Dd s l v2 (by omega) hdg w fun W hW=>Dc l hl hdg X W v2 (hX.grow hW) (h2.grow hW)).mono fun e w' ⟨⟨x,k1,k2⟩,k3⟩=>⟨_,k1,by simp only[AR];exact⟨x,rfl,k2⟩,k3⟩
set_option maxRecDepth 20000 in
set_option maxHeartbeats 1000000 in
theorem FL(z:Int)(hz:(wds z.natAbs).length<=400000000):Fn Tryz.prog 151 [.nm z] (dN (hd z.natAbs)):=by
 refine bn Tryz.func151 ae rfl rfl rfl fun X0=>?_;simp only[aE];have hv:Dg.vl B32 (wds z.natAbs)=z.natAbs:=(Dg.bB (by decide) _).2;have hdu:Dg.dig B32 (wds z.natAbs):=(Dg.bB (by decide) _).1.dg;have hvl:Dg.vl 65536 (hw (wds z.natAbs))=z.natAbs:=by rw[G3,hv]
 have TRIM:=B0 (hw (wds z.natAbs)) (by rw[wU];omega) (Db hdu);rw[hvl]at TRIM
 (repeat(first|refine gk fun K hK=>?_|refine zs2 ?_));(refine gar ?_;refine gU ?_;refine zs3 ?_;refine af ?_);(repeat(first|refine gk fun K hK=>?_|refine zs2 ?_));refine cw ?_;(repeat(first|refine gk fun K hK=>?_|refine zs2 ?_));refine aS ?_;(repeat(first|refine gk fun K hK=>?_|refine zs2 ?_))
 refine aq (cY (t:=3) (k:=3) (T:=3) (wd:=1) fI rfl rfl bZ) ?_
 (refine aq (aj (sl':=[(1,.pt (.nm z)),(3,.own 3),(4,zI 0)]) (ow':=[(3,⟨3,1,[]⟩)]) au ay) ?_)
 refine aF (fun r s=>∃k,k<=(wds z.natAbs).length/\r=(wds z.natAbs).length-k/\s=⟨[(1,.pt (.nm z)),(3,.own 3),(4,zI k)],[(3,⟨3,1,(hw ((wds z.natAbs).take k)).map hN⟩)]⟩) (m:=(wds z.natAbs).length) ⟨0,by omega,rfl,by simp[hw]⟩ fun r s hs=>?_;obtain⟨k,hk,rfl,rfl⟩:=hs;by_cases hkl:k<(wds z.natAbs).length
 ·have hx:=lJ hkl;obtain⟨x,hxd⟩:∃x,x=(wds z.natAbs).getD k 0:=⟨_,rfl⟩;rw[<-hxd]at hx;have hx32:x<4294967296:=hdu x (List.mem_of_getElem? hx);have hql:x/65536<65536:=by omega
  (repeat(first|refine gk fun K hK=>?_|refine zs2 ?_))
  refine rp ?_
  (repeat(first|refine gk fun K hK=>?_|refine zs2 ?_))
  refine lj jb (decide_eq_true (by omega)) ?_
  (repeat(first|refine gk fun K hK=>?_|refine zs2 ?_))
  (refine zs25 ?_;refine aQ ?_;refine zC ?_;refine bp ?_;refine aQ ?_;refine cR ?_;refine bp ?_;(first|refine cE rfl rfl rfl aa zb10 aa aa ?_|((try refine aB ?_);refine aL1 rfl rfl rfl zb10 ?_));refine zB ?_;refine zC ?_;refine bp ?_;refine aQ ?_;refine cR ?_;refine bp ?_;(first|refine cE rfl rfl rfl aa zb8 aa aa ?_|((try refine aB ?_);refine aL1 rfl rfl rfl zb8 ?_));refine zB ?_;(first|refine cE rfl rfl rfl aa zb30 aa aa ?_|((try refine aB ?_);refine aL1 rfl rfl rfl zb30 ?_));((try refine aB ?_);(refine lk rfl rfl rfl rfl bq bq bc aa qu ae ae (by(simp only[List.length_map,wU,List.length_take,List.length_cons,List.length_nil];omega)) bZ qt ?_));refine mX ?_;refine di ?_)
  (repeat(first|refine gk fun K hK=>?_|refine zs2 ?_))
  refine aZ ?_;simp only[nx,inB];refine⟨(wds z.natAbs).length-(k+1),_,by omega,(aj (sl':=[(1,.pt (.nm z)),(3,.own 3),(4,zI (k+1:Nat))]) (ow':=[(3,⟨3,1,(hw ((wds z.natAbs).take k)).map hN++[hN (x%65536),hN (x/65536)]⟩)]) au ay),k+1,by omega,rfl,?_⟩;rw[IS hx,List.map_append];rfl
 ·have hke:k=(wds z.natAbs).length:=by omega
  subst hke;rw[List.take_length]
  (repeat(first|refine gk fun K hK=>?_|refine zs2 ?_))
  refine rp ?_
  (repeat(first|refine gk fun K hK=>?_|refine zs2 ?_))
  refine lR jb (decide_eq_false (by omega)) ?_
  (repeat(first|refine gk fun K hK=>?_|refine zs2 ?_))
  refine aq (aG (k:=3) bc bJ bI) ?_;refine lu ?_
  (repeat(first|refine gk fun K hK=>?_|refine zs2 ?_))
  exact⟨_,Sh.refl,.one (.tmp 2) _ rfl (.tmp 2 rfl)⟩
end DW
end
section
open Go.RowKit
namespace DW
theorem eR{n k:Nat}(h:n<65536^k):(hd n).length<=k:=by
 apply Nat.le_of_not_lt;intro hlt;obtain⟨j,hj⟩:∃j,(hd n).length=j+1:=⟨(hd n).length-1,by omega⟩;have h1:=Dg.iK hj (Dg.bB (by decide) n).1;rw[show Dg.vl 65536 (hd n)=n from(Dg.bB (by decide) n).2]at h1;have h2:=Nat.pow_le_pow_right (n:=65536) (by omega) (show k<=j by omega);omega
theorem lI(n:Nat):n<65536^(hd n).length:=by
 have h:=Dg.bf (Dg.bB (b:=65536) (by decide) n).1.dg;rw[(Dg.bB (by decide) n).2]at h;exact h
theorem il{m n:Nat}(h:m<=n):(hd m).length<=(hd n).length:=eR (Nat.lt_of_le_of_lt h (lI n))
theorem pA(n:Nat):(wds n).length<=(hd n).length:=by
 by_cases h0:(wds n).length=0
 ·omega
 ·obtain⟨j,hj⟩:∃j,(wds n).length=j+1:=⟨(wds n).length-1,by omega⟩;have h1:=Dg.iK hj (Dg.bB (b:=4294967296) (by decide) n).1;rw[show Dg.vl 4294967296 (wds n)=n from(Dg.bB (by decide) n).2]at h1;have h2:(4294967296:Nat)^j=65536^(2*j):=by rw[Nat.pow_mul]
  rw[h2]at h1;have h3:=Nat.lt_of_le_of_lt h1 (lI n);have h4:=(Nat.pow_lt_pow_iff_right (by omega:1<65536)).1 h3;omega
theorem fw(n:Nat):Dg.dig 65536 (hd n):=(Dg.bB (by decide) n).1.dg
theorem fi(n:Nat):Dg.vl 65536 (hd n)=n:=(Dg.bB (by decide) n).2
theorem kR(n:Nat):(hd n).length=0↔n=0:=by
 rw[List.length_eq_zero_iff];exact Dg.I9 (by decide)
def Hf(z:Int):Prop:=(hd z.natAbs).length<=200000000
theorem Hf.neg{z:Int}(h:Hf z):Hf (-z):=by unfold Hf;rw[Int.natAbs_neg];exact h
theorem fE{z:Int}(h:Hf z):Fn Tryz.prog 151 [.nm z] (dN (hd z.natAbs)):=FL z (by have:=pA z.natAbs;unfold Hf at h;omega)
theorem rD{l:List Nat}(hl:l.length<=900000000)(hdg:Dg.dig 65536 l){n:Nat}(hv:Dg.vl 65536 l=n):Fn Tryz.prog 188 [dN l] (dN (hd n)):=hv▸B0 l hl hdg
theorem gQ{s:Bool}{n:Nat}(h:(hd n).length<=900000000){z:Int}(hz:Dg.iv s n=z):Fn Tryz.prog 150 [.sc (.bool s),dN (hd n)] (.nm z):=by
 have:=wJ s (hd n) h (fw n);rw[fi,hz]at this;exact this
theorem so{z:Int}:Dg.iv (decide (z<0)) z.natAbs=z:=by unfold Dg.iv;split<;>rename_i h<;>simp at h<;>omega
theorem J8{z:Int}:Dg.iv (!decide (z<0)) z.natAbs= -z:=by unfold Dg.iv;split<;>rename_i h<;>simp at h<;>omega
set_option maxRecDepth 20000
set_option maxHeartbeats 1000000
theorem wC(z:Int)(hz:Hf z):Fn Tryz.prog 80 [.nm z] (.nm z):=by
 have D1:=fE hz;have M1:=gQ (s:=decide (z<0)) (n:=z.natAbs) (by unfold Hf at hz;omega) so;refine bn Tryz.func80 ae rfl rfl rfl fun X0=>?_;simp only[aE]
 (repeat(first|refine gk fun K hK=>?_|refine zs2 ?_));refine vg ?_;(repeat(first|refine gk fun K hK=>?_|refine zs2 ?_));(refine zs36 ?_;refine vE ?_;refine bp ?_;refine bp ?_;refine od ?_;refine gT ?_;refine sZ ?_;refine di ?_);(repeat(first|refine gk fun K hK=>?_|refine zs2 ?_))
 exact⟨_,aG (k:=2) bc bJ bI,.one (.cell 2 62) _ rfl (.cell 2 _ _ rfl rfl ae ae)⟩
theorem AU(z:Int)(hz:Hf z):Fn Tryz.prog 116 [.nm z] (.nm (-z)):=by
 have D1:=fE hz;have M1:=gQ (s:=!decide (z<0)) (n:=z.natAbs) (by unfold Hf at hz;omega) J8;refine bn Tryz.func116 ae rfl rfl rfl fun X0=>?_;simp only[aE]
 (repeat(first|refine gk fun K hK=>?_|refine zs2 ?_));refine vg ?_;(repeat(first|refine gk fun K hK=>?_|refine zs2 ?_));(refine zs41 ?_;refine vE ?_;refine bp ?_;refine zs42 ?_;refine bp ?_;refine od ?_;refine gT ?_;refine sZ ?_;refine di ?_);(repeat(first|refine gk fun K hK=>?_|refine zs2 ?_))
 exact⟨_,aG (k:=2) bc bJ bI,.one (.cell 2 62) _ rfl (.cell 2 _ _ rfl rfl ae ae)⟩
theorem oB(z:Int)(hz:Hf z):Fn Tryz.prog 106 [.nm z] (zI (sgn z)):=by
 have D1:=fE hz;refine bn Tryz.func106 ae rfl rfl rfl fun X0=>?_;simp only[aE];by_cases h0:z=0
 ·have hl:(hd z.natAbs).length=0:=(kR _).2 (by omega)
  (repeat(first|refine gk fun K hK=>?_|refine zs2 ?_));(refine gar ?_;refine gU ?_;refine kF ?_;refine af ?_);(repeat(first|refine gk fun K hK=>?_|refine zs2 ?_));(refine gar ?_;refine br ?_;refine cZ ?_;refine zs5 ?_;refine mW ?_;refine af ?_);(repeat(first|refine gk fun K hK=>?_|refine zs2 ?_))
  refine lj jb (decide_eq_true (by omega)) ?_
  (repeat(first|refine gk fun K hK=>?_|refine zs2 ?_));refine aS ?_;(repeat(first|refine gk fun K hK=>?_|refine zs2 ?_))
  rw[show sgn z=0 by unfold sgn;rw[if_pos h0]];exact⟨_,Sh.refl,.one (.tmp 2) _ rfl (.tmp 2 rfl)⟩
 ·have hl:(hd z.natAbs).length≠0:=fun e=>h0 (by have:=(kR _).1 e;omega)
  (repeat(first|refine gk fun K hK=>?_|refine zs2 ?_));(refine gar ?_;refine gU ?_;refine kF ?_;refine af ?_);(repeat(first|refine gk fun K hK=>?_|refine zs2 ?_));(refine gar ?_;refine br ?_;refine cZ ?_;refine zs5 ?_;refine mW ?_;refine af ?_);(repeat(first|refine gk fun K hK=>?_|refine zs2 ?_))
  refine lR jb (decide_eq_false (by omega)) ?_
  (repeat(first|refine gk fun K hK=>?_|refine zs2 ?_));refine Aa ?_;(repeat(first|refine gk fun K hK=>?_|refine zs2 ?_))
  by_cases h1:z<0
  ·refine lj jb (decide_eq_true (by omega)) ?_
   (repeat(first|refine gk fun K hK=>?_|refine zs2 ?_));refine aS ?_;(repeat(first|refine gk fun K hK=>?_|refine zs2 ?_))
   rw[show sgn z= -1 by unfold sgn;rw[if_neg (by omega),if_pos h1]];exact⟨_,Sh.refl,.one (.tmp 2) _ rfl (.tmp 2 rfl)⟩
  ·refine lR jb (decide_eq_false (by omega)) ?_
   (repeat(first|refine gk fun K hK=>?_|refine zs2 ?_));refine aS ?_;(repeat(first|refine gk fun K hK=>?_|refine zs2 ?_))
   rw[show sgn z=1 by unfold sgn;rw[if_neg (by omega),if_neg (by omega)]];exact⟨_,Sh.refl,.one (.tmp 2) _ rfl (.tmp 2 rfl)⟩
end DW
end
section
open Go.RowKit
namespace DW
theorem Hy{b:Nat}(l:List Nat)(x:Nat):Dg.vl b (l++[x])=Dg.vl b l+b^l.length*x:=by rw[Dg.cI];simp[Dg.vl]
theorem kZ{b:Nat}{l:List Nat}{x:Nat}(h:Dg.dig b l)(hx:x<b):Dg.dig b (l++[x]):=Dg.iT h fun y hy=>by
 rw[List.mem_singleton.1 hy];exact hx
theorem kQ(l:List Nat)(x:Nat):(l++[x]).map hN=l.map hN++[hN x]:=by rw[List.map_append];rfl
theorem CN{l:List Nat}{m:Nat}(h:65536^l.length*m<65536^4)(hm:0<m):l.length<4:=by
 have h1:65536^l.length<=65536^l.length*m:=Nat.le_mul_of_pos_right _ hm;exact(Nat.pow_lt_pow_iff_right (by omega:1<65536)).1 (Nat.lt_of_le_of_lt h1 h)
theorem yI(l:List Nat)(m:Nat):Dg.vl 65536 (l++[m%65536])+65536^(l++[m%65536]).length*(m/65536)=Dg.vl 65536 l+65536^l.length*m:=by
 rw[Hy,List.length_append,List.length_singleton,Nat.pow_succ,Nat.mul_assoc,Nat.add_assoc,<-Nat.mul_add];congr 2;omega
set_option maxRecDepth 20000
set_option maxHeartbeats 1000000
theorem qH(z:Int)(hz: -9223372036854775808<=z/\z<=9223372036854775807):Fn Tryz.prog 81 [zI z] (.nm z):=by
 refine bn Tryz.func81 ae rfl rfl rfl fun X0=>?_;simp only[aE];have hb:z.natAbs<65536^4:=by rw[show(65536:Nat)^4=18446744073709551616 by rfl];omega
 (repeat(first|refine gk fun K hK=>?_|refine zs2 ?_));(refine gar ?_;refine zz ?_;refine af ?_);(repeat(first|refine gk fun K hK=>?_|refine zs2 ?_));refine cw ?_;(repeat(first|refine gk fun K hK=>?_|refine zs2 ?_));(refine gar ?_;refine zs4 ?_;refine zs7 ?_;refine zs6 ?_;refine af ?_);(repeat(first|refine gk fun K hK=>?_|refine zs2 ?_))
 refine aq (cY (t:=3) (k:=3) (T:=3) (wd:=1) fI rfl rfl bZ) ?_;by_cases hn:z<0
 ·have M : ∀ l : List Nat, Dg.vl 65536 l = z.natAbs -> Dg.dig 65536 l -> l.length <= 4 -> Fn Tryz.prog 150 [.sc (.bool (decide (z < 0))), dN l] (.nm z) := fun l h1 h2 h3 => by
   have:=wJ (decide (z<0)) l (by omega) h2;rwa[h1,so]at this
  (refine aq (aj (sl':=[(0,zI (-((z.natAbs:Nat):Int))),(2, .opt 2 0),(3, .own 3),(4, .sc (.bool (decide (z<0))))]) (ow':=[(3,⟨3,1,[]⟩),(2,⟨62,2,[.nm 0]⟩)]) au ay) ?_)
  refine aF (fun r s=>∃l,Dg.dig 65536 l/\l.length<=4/\Dg.vl 65536 l+65536^l.length*r=z.natAbs/\r<=9223372036854775808/\s=⟨[(0,zI (-(r:Int))),(2, .opt 2 0),(3, .own 3),(4, .sc (.bool (decide (z<0))))],[(3,⟨3,1,l.map hN⟩),(2,⟨62,2,[.nm 0]⟩)]⟩) (m:=z.natAbs) ⟨[],fun _ h=>(by cases h),by simp,by simp[Dg.vl],by omega,rfl⟩ fun r s hs=>?_;obtain⟨l,h1,h2,h3,h4,rfl⟩:=hs;by_cases hr:r=0
  ·subst hr
   (repeat(first|refine gk fun K hK=>?_|refine zs2 ?_));refine lp ?_;(repeat(first|refine gk fun K hK=>?_|refine zs2 ?_))
   refine az ?_
   (repeat(first|refine gk fun K hK=>?_|refine zs2 ?_))
   refine aq (aG (k:=3) bc bJ bI) ?_
   (refine gar ?_;refine zs4 ?_;refine zs4 ?_;refine zs47 ?_;refine iy ?_;refine af ?_)
   (repeat(first|refine gk fun K hK=>?_|refine zs2 ?_))
   exact⟨_,aG (k:=2) bc bJ bI, .one (.cell 2 62) _ rfl (.cell 2 _ _ rfl rfl ae ae)⟩
  ·have hl:=CN (l:=l) (m:=r) (by omega) (by omega);have e1:(-(r:Int)).tmod 65536= -((r%65536:Nat):Int):=by rw[Int.neg_tmod];rfl
   have e2:(-(r:Int)).tdiv 65536= -((r/65536:Nat):Int):=by rw[Int.neg_tdiv];rfl
   have h5:=yI l r;have h6:=kZ h1 (Nat.mod_lt r (by omega:0<65536));have h7:(l++[r%65536]).length=l.length+1:=by simp
   have h8:=kQ l (r%65536)
   (repeat(first|refine gk fun K hK=>?_|refine zs2 ?_));refine lp ?_;(repeat(first|refine gk fun K hK=>?_|refine zs2 ?_))
   refine av ?_;by_cases hd0:r%65536=0;all_goals
    (repeat(first|refine gk fun K hK=>?_|refine zs2 ?_));(refine gar ?_;refine zs4 ?_;refine sY ?_;refine zs6 ?_;refine af ?_);(repeat(first|refine gk fun K hK=>?_|refine zs2 ?_));refine eW ?_;(repeat(first|refine gk fun K hK=>?_|refine zs2 ?_))
    (first|(refine av ?_;(repeat(first|refine gk fun K hK=>?_|refine zs2 ?_));(refine gar ?_;refine zs4 ?_;(refine aL1 rfl rfl rfl (by(apply d_neg;(exact rfl);(focus((apply an;(conv=>lhs;whnf);(first|done|exact rfl))));(omega))) ?_);refine zs6 ?_;refine af ?_);(repeat(first|refine gk fun K hK=>?_|refine zs2 ?_)))|(refine az ?_;(repeat(first|refine gk fun K hK=>?_|refine zs2 ?_))))
    (refine aq (aj (sl':=[(0,zI (-(r:Int))),(2, .opt 2 0),(3, .own 3),(4, .sc (.bool (decide (z<0)))),(5,hN (r%65536))]) (ow':=[(3,⟨3,1,l.map hN⟩),(2,⟨62,2,[.nm 0]⟩)]) au ay) ?_)
    (repeat(first|refine gk fun K hK=>?_|refine zs2 ?_));refine po ?_;(repeat(first|refine gk fun K hK=>?_|refine zs2 ?_));refine rn ?_;(repeat(first|refine gk fun K hK=>?_|refine zs2 ?_))
    simp only[nx,inB];exact⟨r/65536,_,by omega,(aj (sl':=[(0,zI (-((r/65536:Nat):Int))),(2, .opt 2 0),(3, .own 3),(4, .sc (.bool (decide (z<0))))]) (ow':=[(3,⟨3,1,l.map hN++[hN (r%65536)]⟩),(2,⟨62,2,[.nm 0]⟩)]) au ay),l++[r%65536],h6,by omega,by omega,by omega,by rw[h8]⟩
 ·have M : ∀ l : List Nat, Dg.vl 65536 l = z.natAbs -> Dg.dig 65536 l -> l.length <= 4 -> Fn Tryz.prog 150 [.sc (.bool (decide (z < 0))), dN l] (.nm z) := fun l h1 h2 h3 => by
   have:=wJ (decide (z<0)) l (by omega) h2;rwa[h1,so]at this
  (refine aq (aj (sl':=[(0,zI ((z.natAbs:Nat):Int)),(2, .opt 2 0),(3, .own 3),(4, .sc (.bool (decide (z<0))))]) (ow':=[(3,⟨3,1,[]⟩),(2,⟨62,2,[.nm 0]⟩)]) au ay) ?_)
  refine aF (fun r s=>∃l,Dg.dig 65536 l/\l.length<=4/\Dg.vl 65536 l+65536^l.length*r=z.natAbs/\r<=9223372036854775807/\s=⟨[(0,zI (r:Int)),(2, .opt 2 0),(3, .own 3),(4, .sc (.bool (decide (z<0))))],[(3,⟨3,1,l.map hN⟩),(2,⟨62,2,[.nm 0]⟩)]⟩) (m:=z.natAbs) ⟨[],fun _ h=>(by cases h),by simp,by simp[Dg.vl],by omega,rfl⟩ fun r s hs=>?_;obtain⟨l,h1,h2,h3,h4,rfl⟩:=hs;by_cases hr:r=0
  ·subst hr
   (repeat(first|refine gk fun K hK=>?_|refine zs2 ?_));refine lp ?_;(repeat(first|refine gk fun K hK=>?_|refine zs2 ?_))
   refine az ?_
   (repeat(first|refine gk fun K hK=>?_|refine zs2 ?_))
   refine aq (aG (k:=3) bc bJ bI) ?_
   (refine gar ?_;refine zs4 ?_;refine zs4 ?_;refine zs47 ?_;refine iy ?_;refine af ?_)
   (repeat(first|refine gk fun K hK=>?_|refine zs2 ?_))
   exact⟨_,aG (k:=2) bc bJ bI, .one (.cell 2 62) _ rfl (.cell 2 _ _ rfl rfl ae ae)⟩
  ·have hl:=CN (l:=l) (m:=r) (by omega) (by omega);have h5:=yI l r;have h6:=kZ h1 (Nat.mod_lt r (by omega:0<65536));have h7:(l++[r%65536]).length=l.length+1:=by simp
   have h8:=kQ l (r%65536)
   (repeat(first|refine gk fun K hK=>?_|refine zs2 ?_));refine lp ?_;(repeat(first|refine gk fun K hK=>?_|refine zs2 ?_))
   refine av ?_
   (repeat(first|refine gk fun K hK=>?_|refine zs2 ?_));(refine gar ?_;refine zs4 ?_;refine sY ?_;refine zs6 ?_;refine af ?_);(repeat(first|refine gk fun K hK=>?_|refine zs2 ?_));refine eW ?_;(repeat(first|refine gk fun K hK=>?_|refine zs2 ?_))
   refine az ?_
   (repeat(first|refine gk fun K hK=>?_|refine zs2 ?_));refine po ?_;(repeat(first|refine gk fun K hK=>?_|refine zs2 ?_));refine rn ?_;(repeat(first|refine gk fun K hK=>?_|refine zs2 ?_))
   simp only[nx,inB];exact⟨r/65536,_,by omega,(aj (sl':=[(0,hN (r/65536)),(2, .opt 2 0),(3, .own 3),(4, .sc (.bool (decide (z<0))))]) (ow':=[(3,⟨3,1,l.map hN++[hN (r%65536)]⟩),(2,⟨62,2,[.nm 0]⟩)]) au ay),l++[r%65536],h6,by omega,by omega,by omega,by rw[h8]⟩
end DW
end
end Go.Proofs.YtcgjmdpcplhanaaGreat
