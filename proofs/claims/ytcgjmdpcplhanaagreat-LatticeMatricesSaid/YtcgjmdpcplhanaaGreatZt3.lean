/- Lemmas for the law: E1 E2 E3 E4 -/
import Derived.Test.YtcgjmdpcplhanaaGreatZt2
namespace Go.Proofs.YtcgjmdpcplhanaaGreat
section
theorem aa{p:Prop}(h:p:=by exact rfl):p:=h
theorem zb4{p:Prop}(h:p:=by(first|(apply gG;(exact rfl);(focus((apply ak;(conv=>lhs;whnf);(first|done|exact rfl))));(focus((apply ak;(conv=>lhs;whnf);(first|done|exact rfl))));(kernel_rfl);(kernel_rfl);(omega);(focus((first|(apply get_map;assumption)|(apply get_own;assumption)))))|(apply et;(exact rfl);(focus((apply ak;(conv=>lhs;whnf);(first|done|exact rfl))));(focus((apply ak;(conv=>lhs;whnf);(first|done|exact rfl))));(focus((repeat(first|exact List.mem_cons_self|refine List.mem_cons_of_mem _ ?_))));(kernel_rfl);(kernel_rfl);(focus(first|omega|(simp;omega)));(focus(first|(apply dn;assumption)|exact rfl))))):p:=h
theorem fY{p q:Prop}(h:q)(f:Wq q->p:=by(intro hW;((first|refine cr rfl rfl rfl aa zb4 aa aa ?_|((try refine av ?_);refine aL1 rfl rfl rfl zb4 ?_)));exact hW.out)):p:=f ⟨h⟩
theorem xC{p:Prop}(h:p:=by(first|(apply cq;(exact rfl);(focus((apply ak;(conv=>lhs;whnf);(first|done|exact rfl))));(exact bq);(exact rfl))|(apply Dz;(exact rfl);(focus((apply ak;(conv=>lhs;whnf);(first|done|exact rfl))));(exact bq);(kernel_rfl)))):p:=h
theorem bI{p:Prop}(h:p:=by(apply aQ;(conv=>lhs;whnf);(first|done|exact rfl|(apply aI;(first|(apply decide_eq_true;omega)|(apply decide_eq_false;omega)|assumption|(simp;done)))))):p:=h
theorem xq{p q:Prop}(h:q)(f:Wq q->p:=by(intro hW;((first|(refine aLs rfl rfl rfl rfl ?_ ?_;(focus(apply aQ;(conv=>lhs;whnf);(first|done|exact rfl|(apply aI;(first|(apply decide_eq_true;omega)|(apply decide_eq_false;omega)|assumption|(simp;done)))))))|refine aLw rfl rfl rfl rfl bI xC ?_));exact hW.out)):p:=f ⟨h⟩
theorem zb22{p:Prop}(h:p:=by(first|(apply Dw;(exact rfl);(focus((apply ak;(conv=>lhs;whnf);(first|done|exact rfl))));(exact bq);(omega))|(apply cq;(exact rfl);(focus((apply ak;(conv=>lhs;whnf);(first|done|exact rfl))));(exact bq);(exact rfl)))):p:=h
theorem zs9{p q:Prop}(h:q)(f:Wq q->p:=by(intro hW;((first|(refine aLs rfl rfl rfl rfl ?_ ?_;(focus(apply aQ;(conv=>lhs;whnf);(first|done|exact rfl|(apply aI;(first|(apply decide_eq_true;omega)|(apply decide_eq_false;omega)|assumption|(simp;done)))))))|refine aLw rfl rfl rfl rfl bI zb22 ?_));exact hW.out)):p:=f ⟨h⟩
theorem zb0{p:Prop}(h:p:=by(first|(apply qk;(exact rfl);(focus((apply ak;(conv=>lhs;whnf);(first|done|exact rfl))));(exact rfl);(focus((first|exact dT|exact dQ|exact dR|exact wd_pt|exact rfl)));(exact rfl);(kernel_rfl);(kernel_rfl))|(apply gI;(exact rfl);(focus((apply ak;(conv=>lhs;whnf);(first|done|exact rfl))));(focus((repeat(first|exact List.mem_cons_self|refine List.mem_cons_of_mem _ ?_))));(exact fU);(exact rfl);(exact rfl);(focus((first|exact dT|exact dQ|exact dR|exact wd_pt|exact rfl)));(exact rfl);(kernel_rfl);(kernel_rfl))|(apply iB;(exact rfl);(focus((apply ak;(conv=>lhs;whnf);(first|done|exact rfl))));(focus((repeat(first|exact List.mem_cons_self|refine List.mem_cons_of_mem _ ?_))));(exact rfl);(focus((first|exact fU|(apply lQ;assumption)|assumption|(apply uF;(focus assumption);(focus assumption))|exact rfl)));(exact rfl);(focus((first|exact dT|exact dQ|exact dR|exact wd_pt|exact rfl)));(exact rfl);(kernel_rfl);(kernel_rfl))|(apply d_load_row;(exact rfl);(focus((apply ak;(conv=>lhs;whnf);(first|done|exact rfl))));(focus((repeat(first|exact List.mem_cons_self|refine List.mem_cons_of_mem _ ?_))));(exact rfl);(focus(first|(apply dn;assumption)|exact rfl));(assumption);(kernel_rfl);(kernel_rfl)))):p:=h
theorem zs18{p q:Prop}(h:q)(f:Wq q->p:=by(intro hW;((first|(refine aLs rfl rfl rfl rfl ?_ ?_;(focus(apply aQ;(conv=>lhs;whnf);(first|done|exact rfl|(apply aI;(first|(apply decide_eq_true;omega)|(apply decide_eq_false;omega)|assumption|(simp;done)))))))|refine aLw rfl rfl rfl rfl bI zb0 ?_));exact hW.out)):p:=f ⟨h⟩
theorem zb5{p:Prop}(h:p:=by(first|(apply vf;(exact rfl);(focus((apply ak;(conv=>lhs;whnf);(first|done|exact rfl))));(focus(first|exact rfl|(apply decide_eq_true;omega)|assumption|(simp;done)));(focus((apply ak;(conv=>lhs;whnf);(first|done|exact rfl)))))|(apply vg;(exact rfl);(focus((apply ak;(conv=>lhs;whnf);(first|done|exact rfl))));(focus(first|exact rfl|(apply decide_eq_false;omega)|assumption|(simp;done)));(exact fe))|(apply d_pick;(exact rfl);(focus((apply ak;(conv=>lhs;whnf);(first|done|exact rfl))));(focus((apply ak;(conv=>lhs;whnf);(first|done|exact rfl))));(exact fe);(exact rfl)))):p:=h
theorem gg{p q:Prop}(h:q)(f:Wq q->p:=by(intro hW;(refine aL1 rfl rfl rfl zb5 ?_);exact hW.out)):p:=f ⟨h⟩
theorem zb3{p:Prop}(h:p:=by(first|(apply gG;(exact rfl);(focus((apply ak;(conv=>lhs;whnf);(first|done|exact rfl))));(focus((apply ak;(conv=>lhs;whnf);(first|done|exact rfl))));(kernel_rfl);(kernel_rfl);(omega);(focus((first|(apply uF;(focus assumption);(focus assumption))|(apply get_map;assumption)|(apply get_own;assumption)))))|(apply et;(exact rfl);(focus((apply ak;(conv=>lhs;whnf);(first|done|exact rfl))));(focus((apply ak;(conv=>lhs;whnf);(first|done|exact rfl))));(focus((repeat(first|exact List.mem_cons_self|refine List.mem_cons_of_mem _ ?_))));(kernel_rfl);(kernel_rfl);(focus(first|omega|(simp;omega)));(focus(first|(apply dn;assumption)|exact rfl))))):p:=h
theorem zs17{p q:Prop}(h:q)(f:Wq q->p:=by(intro hW;((first|(refine aLs rfl rfl rfl rfl ?_ ?_;(focus(apply aQ;(conv=>lhs;whnf);(first|done|exact rfl|(apply aI;(first|(apply decide_eq_true;omega)|(apply decide_eq_false;omega)|assumption|(simp;done)))))))|refine aLw rfl rfl rfl rfl bI zb3 ?_));exact hW.out)):p:=f ⟨h⟩
theorem mB{p:Prop}(h:p:=by(apply GX;(exact rfl);(focus((apply ak;(conv=>lhs;whnf);(first|done|exact rfl)))))):p:=h
theorem zs8{p q:Prop}(h:q)(f:Wq q->p:=by(intro hW;((first|(refine aLs rfl rfl rfl rfl ?_ ?_;(focus(apply aQ;(conv=>lhs;whnf);(first|done|exact rfl|(apply aI;(first|(apply decide_eq_true;omega)|(apply decide_eq_false;omega)|assumption|(simp;done)))))))|refine aLw rfl rfl rfl rfl bI mB ?_));exact hW.out)):p:=f ⟨h⟩
theorem qS{p:Prop}(h:p:=by(apply cq;(exact rfl);(focus((apply ak;(conv=>lhs;whnf);(first|done|exact rfl))));(exact bq);(exact rfl))):p:=h
theorem zs7{p q:Prop}(h:q)(f:Wq q->p:=by(intro hW;(refine aL1 rfl rfl rfl qS ?_);exact hW.out)):p:=f ⟨h⟩
theorem zs4{p q:Prop}(h:q)(f:Wq q->p:=by(intro hW;(refine aL1 rfl rfl rfl mB ?_);exact hW.out)):p:=f ⟨h⟩
theorem CV{p q:Prop}(h:q)(f:Wq q->p:=by(intro hW;((refine gar ?_;refine zs4 ?_;refine zs7 ?_;refine zs4 ?_;refine zs8 ?_;refine zs8 ?_;refine zs9 ?_;refine zs17 ?_;refine zs18 ?_;refine xq ?_;refine gg ?_;refine af ?_));exact hW.out)):p:=f ⟨h⟩
theorem cM{p:Prop}(h:p:=by(repeat(first|exact lL|(apply jP;(exact rfl))|(apply lM;(exact rfl))))):p:=h
theorem aR{p:Prop}(h:p:=by(repeat(first|exact List.mem_cons_self|refine List.mem_cons_of_mem _ ?_))):p:=h
theorem tS{p:Prop}(h:p:=by(repeat(first|exact Eb|apply Ec|(apply A8;(exact rfl))))):p:=h
theorem tU{p:Prop}(h:p:=by first|exact rfl|(apply uA;intro _;exact rfl)|(apply EI;apply uA;intro _;exact rfl)|(apply nw_drop;apply uA;intro _;exact rfl)|(simp[D.nw];done)):p:=h
theorem bu{p:Prop}(h:p:=by(apply ak;(conv=>lhs;whnf);(first|done|exact rfl))):p:=h
theorem zs16{p q:Prop}(h:q)(f:Wq q->p:=by(intro hW;((refine nn rfl rfl rfl rfl bu bu aR aa tU ae ae (by(first|omega|(simp;done)|(simp;omega))) cM tS ?_));exact hW.out)):p:=f ⟨h⟩
theorem zs15{p q:Prop}(h:q)(f:Wq q->p:=by(intro hW;(refine aL1 rfl rfl rfl (by(apply yw;(exact rfl);(focus((apply ak;(conv=>lhs;whnf);(first|done|exact rfl))));(focus((apply ak;(conv=>lhs;whnf);(first|done|exact rfl))));(kernel_rfl);(kernel_rfl);(focus(first|exact Int.toNat_natCast _|exact rfl));(focus(first|omega|(simp;omega))))) ?_);exact hW.out)):p:=f ⟨h⟩
theorem tT{p:Prop}(h:p:=by(apply lY;(exact rfl);(focus((apply ak;(conv=>lhs;whnf);(first|done|exact rfl)))))):p:=h
theorem zs6{p q:Prop}(h:q)(f:Wq q->p:=by(intro hW;(refine aL1 rfl rfl rfl tT ?_);exact hW.out)):p:=f ⟨h⟩
theorem zs14{p q:Prop}(h:q)(f:Wq q->p:=by(intro hW;((refine wM (k:=18) (wd:=1) (T:=Tryz.prog.elem 40) rfl rfl rfl rfl ae ae aa aa cM ?_));exact hW.out)):p:=f ⟨h⟩
theorem CW{p q:Prop}(h:q)(f:Wq q->p:=by(intro hW;((refine gar ?_;refine zs14 ?_;refine zs4 ?_;refine zs4 ?_;refine zs15 ?_;refine zs16 ?_;refine zs6 ?_;refine af ?_));exact hW.out)):p:=f ⟨h⟩
theorem zs3{p q:Prop}(h:q)(f:Wq q->p:=by(intro hW;(refine aL1 rfl rfl rfl (by(apply lY;(exact rfl);(exact nE))) ?_);exact hW.out)):p:=f ⟨h⟩
theorem cL{p q:Prop}(h:q)(f:Wq q->p:=by(intro hW;((refine gar ?_;refine zs3 ?_;refine af ?_));exact hW.out)):p:=f ⟨h⟩
theorem zb18{p:Prop}(h:p:=by(first|(apply Cf;(exact rfl);(focus((apply ak;(conv=>lhs;whnf);(first|done|exact rfl))));(kernel_rfl);(kernel_rfl))|(apply d_field_at;(exact rfl);(focus((apply ak;(conv=>lhs;whnf);(first|done|exact rfl))));(kernel_rfl);(exact rfl);(kernel_rfl)))):p:=h
theorem mz{p q:Prop}(h:q)(f:Wq q->p:=by(intro hW;(refine aL1 rfl rfl rfl zb18 ?_);exact hW.out)):p:=f ⟨h⟩
theorem eA{p q:Prop}(h:q)(f:Wq q->p:=by(intro hW;((try refine av ?_);refine af ?_);exact hW.out)):p:=f ⟨h⟩
theorem qH{p q:Prop}(h:q)(f:Wq q->p:=by(intro hW;((first|refine cr rfl rfl rfl aa zb0 aa aa ?_|((try refine av ?_);refine aL1 rfl rfl rfl zb0 ?_)));exact hW.out)):p:=f ⟨h⟩
theorem zs54{p q:Prop}(h:q)(f:Wq q->p:=by(intro hW;((first|(apply ah 8;(focus kernel_rfl);(decide+kernel))|(apply ah 7;(focus kernel_rfl);(decide+kernel))|(apply ah 6;(focus kernel_rfl);(decide+kernel))|(apply ah 5;(focus kernel_rfl);(decide+kernel))|(apply ah 4;(focus kernel_rfl);(decide+kernel))|(apply ah 3;(focus kernel_rfl);(decide+kernel))|(apply ah 2;(focus kernel_rfl);(decide+kernel))|(apply ah 1;(focus kernel_rfl);(decide+kernel)));simp only[List.take_succ_cons,List.take_zero,List.drop_succ_cons,List.drop_zero]);exact hW.out)):p:=f ⟨h⟩
theorem aZ{p q:Prop}(h:q)(f:Wq q->p:=by(intro hW;((first|refine cr rfl rfl rfl aa mB aa aa ?_|((try refine av ?_);refine aL1 rfl rfl rfl mB ?_)));exact hW.out)):p:=f ⟨h⟩
theorem xE{p:Prop}(h:p:=by(first|(apply cq;(exact rfl);(focus((apply ak;(conv=>lhs;whnf);(first|done|exact rfl))));(focus((apply ak;(conv=>lhs;whnf);(first|done|exact rfl))));(exact rfl))|(apply Dx;(exact rfl);(focus((apply ak;(conv=>lhs;whnf);(first|done|exact rfl))));(focus((apply ak;(conv=>lhs;whnf);(first|done|exact rfl))));(kernel_rfl)))):p:=h
theorem wR{p q:Prop}(h:q)(f:Wq q->p:=by(intro hW;((first|refine cr rfl rfl rfl aa xE aa aa ?_|((try refine av ?_);refine aL1 rfl rfl rfl xE ?_)));exact hW.out)):p:=f ⟨h⟩
theorem tE{p q:Prop}(h:q)(f:Wq q->p:=by(intro hW;((first|refine cr rfl rfl rfl aa zb3 aa aa ?_|((try refine av ?_);refine aL1 rfl rfl rfl zb3 ?_)));exact hW.out)):p:=f ⟨h⟩
theorem CT{p q:Prop}(h:q)(f:Wq q->p:=by(intro hW;((refine zs54 ?_;refine aZ ?_;refine aZ ?_;refine tE ?_;refine qH ?_;refine aZ ?_;refine aZ ?_;refine tE ?_;refine qH ?_;refine wR ?_;refine eA ?_));exact hW.out)):p:=f ⟨h⟩
theorem zb2{p:Prop}(h:p:=by(first|(apply G1;(exact rfl);(focus((apply ak;(conv=>lhs;whnf);(first|done|exact rfl))));(kernel_rfl))|(apply yx;(exact rfl);(focus((apply ak;(conv=>lhs;whnf);(first|done|exact rfl))));(focus((repeat(first|exact List.mem_cons_self|refine List.mem_cons_of_mem _ ?_))));(kernel_rfl))|(apply d_len;(exact rfl);(focus((apply ak;(conv=>lhs;whnf);(first|done|exact rfl))));(kernel_rfl))|(apply d_len_own;(exact rfl);(focus((apply ak;(conv=>lhs;whnf);(first|done|exact rfl))));(focus((repeat(first|exact List.mem_cons_self|refine List.mem_cons_of_mem _ ?_))));(kernel_rfl))|(apply d_len0;(exact rfl);(focus((apply ak;(conv=>lhs;whnf);(first|done|exact rfl))));(kernel_rfl)))):p:=h
theorem zs5{p q:Prop}(h:q)(f:Wq q->p:=by(intro hW;(refine aL1 rfl rfl rfl zb2 ?_);exact hW.out)):p:=f ⟨h⟩
theorem xB{p:Prop}(h:p:=by(apply cq;(exact rfl);(focus((apply ak;(conv=>lhs;whnf);(first|done|exact rfl))));(focus((apply ak;(conv=>lhs;whnf);(first|done|exact rfl))));(exact rfl))):p:=h
theorem lh{p q:Prop}(h:q)(f:Wq q->p:=by(intro hW;(refine aL1 rfl rfl rfl xB ?_);exact hW.out)):p:=f ⟨h⟩
theorem aU{p q:Prop}(h:q)(f:Wq q->p:=by(intro hW;((refine gar ?_;refine zs4 ?_;refine zs4 ?_;refine zs5 ?_;refine lh ?_;refine af ?_));exact hW.out)):p:=f ⟨h⟩
theorem zs19{p q:Prop}(h:q)(f:Wq q->p:=by(intro hW;(refine aL1 rfl rfl rfl zb22 ?_);exact hW.out)):p:=f ⟨h⟩
theorem tf{p q:Prop}(h:q)(f:Wq q->p:=by(intro hW;((refine gar ?_;refine zs4 ?_;refine zs19 ?_;refine zs6 ?_;refine af ?_));exact hW.out)):p:=f ⟨h⟩
theorem mu{p q:Prop}(h:q)(f:Wq q->p:=by(intro hW;(refine aL1 rfl rfl rfl xE ?_);exact hW.out)):p:=f ⟨h⟩
theorem CU{p q:Prop}(h:q)(f:Wq q->p:=by(intro hW;((refine gar ?_;refine zs4 ?_;refine zs5 ?_;refine zs4 ?_;refine zs5 ?_;refine mu ?_;refine af ?_));exact hW.out)):p:=f ⟨h⟩
theorem dK{p:Prop}(h:p:=by(first|exact dT|exact dQ|exact dR|exact wd_pt|exact rfl)):p:=h
theorem tI{p q:Prop}(h:q)(f:Wq q->p:=by(intro hW;((refine nT (k:=2) (z:=(.agg #[.bool false,.slice none 0 0])) (d:=(.nm 0)) rfl rfl rfl rfl rfl ae aa aa dK aa aa cM ?_));exact hW.out)):p:=f ⟨h⟩
theorem aA{p q:Prop}(h:q)(f:Wq q->p:=by(intro hW;((apply jF;(focus(first|(apply ak;(conv=>lhs;whnf);(first|done|exact rfl))|with_reducible exact bq|with_reducible exact fe|with_reducible exact nE|exact op_zero));(focus(first|with_reducible rfl|(apply decide_eq_true;omega)|assumption|(simp<;>omega)))));exact hW.out)):p:=f ⟨h⟩
theorem zb9{p:Prop}(h:p:=by(first|(apply GW;(exact rfl);(focus((apply ak;(conv=>lhs;whnf);(first|done|exact rfl))));(exact bq);(exact rfl);(exact rfl);(focus(apply nt;(try simp only[]);omega)))|(apply d_quoP;(exact rfl);(focus((apply ak;(conv=>lhs;whnf);(first|done|exact rfl))));(exact bq);(omega))|(apply d_quo;(exact rfl);(focus((apply ak;(conv=>lhs;whnf);(first|done|exact rfl))));(exact bq);(omega))|(apply AE;(exact rfl);(focus((apply ak;(conv=>lhs;whnf);(first|done|exact rfl))));(exact bq);(focus(first|omega|decide))))):p:=h
theorem zs51{p q:Prop}(h:q)(f:Wq q->p:=by(intro hW;(refine aL1 rfl rfl rfl zb9 ?_);exact hW.out)):p:=f ⟨h⟩
theorem oZ{p q:Prop}(h:q)(f:Wq q->p:=by(intro hW;((refine gar ?_;refine zs4 ?_;refine zs51 ?_;refine zs6 ?_;refine af ?_));exact hW.out)):p:=f ⟨h⟩
theorem xD{p:Prop}(h:p:=by(first|(apply yv;(exact rfl);(focus((apply ak;(conv=>lhs;whnf);(first|done|exact rfl))));(kernel_rfl);(kernel_rfl))|(apply d_field_at;(exact rfl);(focus((apply ak;(conv=>lhs;whnf);(first|done|exact rfl))));(kernel_rfl);(exact rfl);(kernel_rfl)))):p:=h
theorem wT{p q:Prop}(h:q)(f:Wq q->p:=by(intro hW;((first|refine cr rfl rfl rfl aa xD aa aa ?_|((try refine av ?_);refine aL1 rfl rfl rfl xD ?_)));exact hW.out)):p:=f ⟨h⟩
theorem tJ{p q:Prop}(h:q)(f:Wq q->p:=by(intro hW;((first|(refine aLs rfl rfl rfl rfl ?_ ?_;(focus(apply aQ;(conv=>lhs;whnf);(first|done|exact rfl|(apply aI;(first|(apply decide_eq_true;omega)|(apply decide_eq_false;omega)|assumption|(simp;done)))))))|refine aLw rfl rfl rfl rfl bI zb4 ?_));exact hW.out)):p:=f ⟨h⟩
theorem zb14{p:Prop}(h:p:=by(first|(apply DD;(exact rfl);(focus((apply ak;(conv=>lhs;whnf);(first|done|exact rfl))));(focus((apply ak;(conv=>lhs;whnf);(first|done|exact rfl))));(omega))|(apply cq;(exact rfl);(focus((apply ak;(conv=>lhs;whnf);(first|done|exact rfl))));(focus((apply ak;(conv=>lhs;whnf);(first|done|exact rfl))));(exact rfl)))):p:=h
theorem oe{p q:Prop}(h:q)(f:Wq q->p:=by(intro hW;(refine aL1 rfl rfl rfl zb14 ?_);exact hW.out)):p:=f ⟨h⟩
theorem tF{p q:Prop}(h:q)(f:Wq q->p:=by(intro hW;((refine nn rfl rfl rfl rfl bu bu aR aa tU ae ae (by(simp only[List.length_map,List.length_cons,List.length_nil];omega)) cM tS ?_));exact hW.out)):p:=f ⟨h⟩
theorem zs2{p q:Prop}(h:q)(f:Wq q->p:=by(intro hW;(first|refine Cp ?_|refine FM ?_|refine FN ?_|refine G9 ?_|((simp only[nx,inB,ite_true,ite_false,↓reduceIte,Nat.reduceEqDiff,reduceCtorEq]);apply_assumption-exfalso));exact hW.out)):p:=f ⟨h⟩
theorem zb45{p:Prop}(h:p:=by(apply Ca;(exact rfl);(focus((apply ak;(conv=>lhs;whnf);(first|done|exact rfl)))))):p:=h
theorem mD{p:Prop}(h:p:=by(apply jd;(exact rfl);(focus((apply ak;(conv=>lhs;whnf);(first|done|exact rfl))));(focus((apply ak;(conv=>lhs;whnf);(first|done|exact rfl))));(exact rfl);(exact rfl);(assumption);(exact rfl))):p:=h
theorem lg{p q:Prop}(h:q)(f:Wq q->p:=by(intro hW;((first|refine cr rfl rfl rfl aa mD aa aa ?_|((try refine av ?_);refine aL1 rfl rfl rfl mD ?_)));exact hW.out)):p:=f ⟨h⟩
theorem zs60{p q:Prop}(h:q)(f:Wq q->p:=by(intro hW;((first|(refine aLs rfl rfl rfl rfl ?_ ?_;(focus(apply aQ;(conv=>lhs;whnf);(first|done|exact rfl|(apply aI;(first|(apply decide_eq_true;omega)|(apply decide_eq_false;omega)|assumption|(simp;done)))))))|refine aLw rfl rfl rfl rfl bI xB ?_));exact hW.out)):p:=f ⟨h⟩
theorem zb6{p:Prop}(h:p:=by(first|(apply vf;(exact rfl);(focus((apply ak;(conv=>lhs;whnf);(first|done|exact rfl))));(focus(first|exact rfl|(apply decide_eq_true;omega)|assumption|(simp;done)));(exact fe))|(apply vg;(exact rfl);(focus((apply ak;(conv=>lhs;whnf);(first|done|exact rfl))));(focus(first|exact rfl|(apply decide_eq_false;omega)|assumption|(simp;done)));(focus((apply ak;(conv=>lhs;whnf);(first|done|exact rfl)))))|(apply d_pick;(exact rfl);(focus((apply ak;(conv=>lhs;whnf);(first|done|exact rfl))));(exact fe);(focus((apply ak;(conv=>lhs;whnf);(first|done|exact rfl))));(exact rfl)))):p:=h
theorem kY{p q:Prop}(h:q)(f:Wq q->p:=by(intro hW;(refine aL1 rfl rfl rfl zb6 ?_);exact hW.out)):p:=f ⟨h⟩
theorem kX{p q:Prop}(h:q)(f:Wq q->p:=by(intro hW;((first|(refine aLs rfl rfl rfl rfl ?_ ?_;(focus(apply aQ;(conv=>lhs;whnf);(first|done|exact rfl|(apply aI;(first|(apply decide_eq_true;omega)|(apply decide_eq_false;omega)|assumption|(simp;done)))))))|refine aLw rfl rfl rfl rfl bI qS ?_));exact hW.out)):p:=f ⟨h⟩
theorem kZ{p q:Prop}(h:q)(f:Wq q->p:=by(intro hW;((first|(refine aLs rfl rfl rfl rfl ?_ ?_;(focus(apply aQ;(conv=>lhs;whnf);(first|done|exact rfl|(apply aI;(first|(apply decide_eq_true;omega)|(apply decide_eq_false;omega)|assumption|(simp;done)))))))|refine aLw rfl rfl rfl rfl bI zb2 ?_));exact hW.out)):p:=f ⟨h⟩
theorem CS{p q:Prop}(h:q)(f:Wq q->p:=by(intro hW;((refine gar ?_;refine zs4 ?_;refine zs4 ?_;refine zs5 ?_;refine lh ?_;refine zs4 ?_;refine zs8 ?_;refine zs8 ?_;refine kZ ?_;refine zs60 ?_;refine kY ?_;refine zs4 ?_;refine zs8 ?_;refine kX ?_;refine kY ?_;refine af ?_));exact hW.out)):p:=f ⟨h⟩
theorem zs35{p q:Prop}(h:q)(f:Wq q->p:=by(intro hW;((first|(apply ah 5;(focus kernel_rfl);(decide+kernel))|(apply ah 4;(focus kernel_rfl);(decide+kernel))|(apply ah 3;(focus kernel_rfl);(decide+kernel))|(apply ah 2;(focus kernel_rfl);(decide+kernel))|(apply ah 1;(focus kernel_rfl);(decide+kernel)));simp only[List.take_succ_cons,List.take_zero,List.drop_succ_cons,List.drop_zero]);exact hW.out)):p:=f ⟨h⟩
theorem zb1{p:Prop}(h:p:=by(first|(apply qk;(exact rfl);(focus((apply ak;(conv=>lhs;whnf);(first|done|exact rfl))));(exact rfl);(focus((first|exact dT|exact dQ|exact dR|exact wd_pt|exact rfl)));(exact rfl);(kernel_rfl);(kernel_rfl))|(apply gI;(exact rfl);(focus((apply ak;(conv=>lhs;whnf);(first|done|exact rfl))));(focus((repeat(first|exact List.mem_cons_self|refine List.mem_cons_of_mem _ ?_))));(exact fU);(exact rfl);(exact rfl);(focus((first|exact dT|exact dQ|exact dR|exact wd_pt|exact rfl)));(exact rfl);(kernel_rfl);(kernel_rfl))|(apply iB;(exact rfl);(focus((apply ak;(conv=>lhs;whnf);(first|done|exact rfl))));(focus((repeat(first|exact List.mem_cons_self|refine List.mem_cons_of_mem _ ?_))));(exact rfl);(focus((first|exact fU|(apply lQ;assumption)|assumption|exact rfl)));(exact rfl);(focus((first|exact dT|exact dQ|exact dR|exact wd_pt|exact rfl)));(exact rfl);(kernel_rfl);(kernel_rfl))|(apply d_load_row;(exact rfl);(focus((apply ak;(conv=>lhs;whnf);(first|done|exact rfl))));(focus((repeat(first|exact List.mem_cons_self|refine List.mem_cons_of_mem _ ?_))));(exact rfl);(focus(first|(apply dn;assumption)|exact rfl));(assumption);(kernel_rfl);(kernel_rfl)))):p:=h
theorem bs{p q:Prop}(h:q)(f:Wq q->p:=by(intro hW;(refine aL1 rfl rfl rfl zb1 ?_);exact hW.out)):p:=f ⟨h⟩
theorem zs22{p q:Prop}(h:q)(f:Wq q->p:=by(intro hW;(refine aL1 rfl rfl rfl xD ?_);exact hW.out)):p:=f ⟨h⟩
theorem pe{p q:Prop}(h:q)(f:Wq q->p:=by(intro hW;((refine gar ?_;refine zs4 ?_;refine zs22 ?_;refine bs ?_;refine zs5 ?_;refine lh ?_;refine af ?_));exact hW.out)):p:=f ⟨h⟩
theorem zb10{p:Prop}(h:p:=by(first|(apply GV;(exact rfl);(focus((apply ak;(conv=>lhs;whnf);(first|done|exact rfl))));(exact bq);(exact rfl);(exact rfl))|(apply d_remP;(exact rfl);(focus((apply ak;(conv=>lhs;whnf);(first|done|exact rfl))));(exact bq);(omega))|(apply AB;(exact rfl);(focus((apply ak;(conv=>lhs;whnf);(first|done|exact rfl))));(exact bq);(focus(first|omega|decide))))):p:=h
theorem aB{p q:Prop}(h:q)(f:Wq q->p:=by(intro hW;((apply kb;(focus(first|(apply ak;(conv=>lhs;whnf);(first|done|exact rfl))|with_reducible exact bq|with_reducible exact fe|with_reducible exact nE|exact op_zero));(focus(first|with_reducible rfl|(apply decide_eq_false;omega)|assumption|(simp<;>omega)))));exact hW.out)):p:=f ⟨h⟩
theorem tH{p q:Prop}(h:q)(f:Wq q->p:=by(intro hW;((first|refine cr rfl rfl rfl aa zb18 aa aa ?_|((try refine av ?_);refine aL1 rfl rfl rfl zb18 ?_)));exact hW.out)):p:=f ⟨h⟩
theorem zb28{p:Prop}(h:p:=by(apply GZ;(exact rfl);(focus((apply ak;(conv=>lhs;whnf);(first|done|exact rfl))));(focus((apply ak;(conv=>lhs;whnf);(first|done|exact rfl))));(kernel_rfl);(kernel_rfl))):p:=h
theorem zb7{p:Prop}(h:p:=by(first|(apply(vh (q':=.i64));(exact rfl);(focus((apply ak;(conv=>lhs;whnf);(first|done|exact rfl))));(kernel_rfl);(kernel_rfl);(focus(first|(apply nt;(try simp only[]);omega)|exact rfl)))|(apply(vh (q':=.u32));(exact rfl);(focus((apply ak;(conv=>lhs;whnf);(first|done|exact rfl))));(kernel_rfl);(kernel_rfl);(focus(first|(apply nt;(try simp only[]);omega)|exact rfl)))|(apply(vh (q':=.u64));(exact rfl);(focus((apply ak;(conv=>lhs;whnf);(first|done|exact rfl))));(kernel_rfl);(kernel_rfl);(focus(first|(apply nt;(try simp only[]);omega)|exact rfl))))):p:=h
theorem zs29{p q:Prop}(h:q)(f:Wq q->p:=by(intro hW;((first|refine cr rfl rfl rfl aa zb7 aa aa ?_|((try refine av ?_);refine aL1 rfl rfl rfl zb7 ?_)));exact hW.out)):p:=f ⟨h⟩
theorem zs52{p q:Prop}(h:q)(f:Wq q->p:=by(intro hW;(refine aL1 rfl rfl rfl (by(apply lY;(exact rfl);(exact fe))) ?_);exact hW.out)):p:=f ⟨h⟩
theorem bZ{p q:Prop}(h:q)(f:Wq q->p:=by(intro hW;((refine gar ?_;refine zs52 ?_;refine af ?_));exact hW.out)):p:=f ⟨h⟩
theorem bR{p q:Prop}(h:q)(f:Wq q->p:=by(intro hW;((first|refine cr rfl rfl rfl aa zb1 aa aa ?_|((try refine av ?_);refine aL1 rfl rfl rfl zb1 ?_)));exact hW.out)):p:=f ⟨h⟩
theorem zs43{p q:Prop}(h:q)(f:Wq q->p:=by(intro hW;(refine aL1 rfl rfl rfl (by(first|(apply cq;(exact rfl);(focus((apply ak;(conv=>lhs;whnf);(first|done|exact rfl))));(exact bq);(exact rfl))|(apply Dx;(exact rfl);(focus((apply ak;(conv=>lhs;whnf);(first|done|exact rfl))));(exact bq);(kernel_rfl)))) ?_);exact hW.out)):p:=f ⟨h⟩
theorem il{p q:Prop}(h:q)(f:Wq q->p:=by(intro hW;((refine gar ?_;refine zs4 ?_;refine zs43 ?_;refine af ?_));exact hW.out)):p:=f ⟨h⟩
theorem qI{p q:Prop}(h:q)(f:Wq q->p:=by(intro hW;(refine aL1 rfl rfl rfl zb10 ?_);exact hW.out)):p:=f ⟨h⟩
theorem gf{p q:Prop}(h:q)(f:Wq q->p:=by(intro hW;((refine gar ?_;refine zs4 ?_;refine zs7 ?_;refine af ?_));exact hW.out)):p:=f ⟨h⟩
theorem lk{p:Prop}(h:p:=by first|exact Nat.zero_lt_one|omega|(simp;omega)):p:=h
theorem ll{p:Prop}(h:p:=by(repeat(first|exact set_nil|apply Eo|apply Ep|(apply Bt;(exact rfl))))):p:=h
theorem fX{p q:Prop}(h:q)(f:Wq q->p:=by(intro hW;((refine je (i:=0) rfl rfl rfl bu bu aR aa lk aa dK aa ae ll ?_));exact hW.out)):p:=f ⟨h⟩
theorem aD{p:Prop}(h:p:=by(repeat(first|exact Bh|(apply zi;(focus(repeat(first|exact List.mem_cons_self|refine List.mem_cons_of_mem _ ?_))))))):p:=h
theorem zs45{p q:Prop}(h:q)(f:Wq q->p:=by(intro hW;(refine aL1 rfl rfl rfl (by(apply jd;(exact rfl);(focus((apply ak;(conv=>lhs;whnf);(first|done|exact rfl))));(focus((apply ak;(conv=>lhs;whnf);(first|done|exact rfl))));(exact rfl);(exact rfl);(focus((first|exact M l (by omega) h1 h2)));(exact rfl))) ?_);exact hW.out)):p:=f ⟨h⟩
theorem gP{p q:Prop}(h:q)(f:Wq q->p:=by(intro hW;(refine aL1 rfl rfl rfl (by(apply lY;(exact rfl);(exact bq))) ?_);exact hW.out)):p:=f ⟨h⟩
theorem aX{p q:Prop}(h:q)(f:Wq q->p:=by(intro hW;((refine gar ?_;refine gP ?_;refine af ?_));exact hW.out)):p:=f ⟨h⟩
theorem zb24{p:Prop}(h:p:=by(apply Dy;(exact rfl);(focus((apply ak;(conv=>lhs;whnf);(first|done|exact rfl))));(exact rfl);(focus((first|exact dT|exact dQ|exact dR|exact wd_pt|exact rfl)));(kernel_rfl);(kernel_rfl);(exact rfl);(exact rfl))):p:=h
theorem my{p q:Prop}(h:q)(f:Wq q->p:=by(intro hW;(refine aL1 rfl rfl rfl zb24 ?_);exact hW.out)):p:=f ⟨h⟩
theorem pd{p q:Prop}(h:q)(f:Wq q->p:=by(intro hW;((refine gar ?_;refine zs4 ?_;refine zs4 ?_;refine my ?_;refine tF ?_;refine zs6 ?_;refine af ?_));exact hW.out)):p:=f ⟨h⟩
theorem bz{p:Prop}(h:p:=by(repeat(first|exact Bp|(apply zw;(exact rfl))|apply Bq|apply Em))):p:=h
theorem zb52{p:Prop}(h:p:=by rw[List.take_append_of_le_length (by omega),List.take_of_length_le (by omega)];exact h):p:=h
theorem mC{p:Prop}(h:p:=by(apply rP;(exact rfl);(focus((apply ak;(conv=>lhs;whnf);(first|done|exact rfl))));(exact rfl);(assumption);(exact rfl))):p:=h
theorem og{p q:Prop}(h:q)(f:Wq q->p:=by(intro hW;((first|refine cr rfl rfl rfl aa mC aa aa ?_|((try refine av ?_);refine aL1 rfl rfl rfl mC ?_)));exact hW.out)):p:=f ⟨h⟩
theorem gQ{p q:Prop}(h:q)(f:Wq q->p:=by(intro hW;(refine aL1 rfl rfl rfl (by(apply Cd;(exact rfl);(focus((apply ak;(conv=>lhs;whnf);(first|done|exact rfl))));(exact rfl))) ?_);exact hW.out)):p:=f ⟨h⟩
theorem te{p q:Prop}(h:q)(f:Wq q->p:=by(intro hW;((refine gar ?_;refine gQ ?_;refine tI ?_;refine af ?_));exact hW.out)):p:=f ⟨h⟩
theorem wS{p q:Prop}(h:q)(f:Wq q->p:=by(intro hW;(refine aL1 rfl rfl rfl (by(first|(apply DD;(exact rfl);(focus((apply ak;(conv=>lhs;whnf);(first|done|exact rfl))));(exact bq);(omega))|(apply cq;(exact rfl);(focus((apply ak;(conv=>lhs;whnf);(first|done|exact rfl))));(exact bq);(exact rfl)))) ?_);exact hW.out)):p:=f ⟨h⟩
theorem ba{p q:Prop}(h:q)(f:Wq q->p:=by(intro hW;((refine gar ?_;refine zs4 ?_;refine wS ?_;refine zs6 ?_;refine af ?_));exact hW.out)):p:=f ⟨h⟩
theorem zs65{p q:Prop}(h:q)(f:Wq q->p:=by(intro hW;(refine aL1 rfl rfl rfl (by(first|(apply qk;(exact rfl);(focus((apply ak;(conv=>lhs;whnf);(first|done|exact rfl))));(exact rfl);(focus((first|exact dT|exact dQ|exact dR|exact wd_pt|exact rfl)));(exact rfl);(kernel_rfl);(kernel_rfl))|(apply gI;(exact rfl);(focus((apply ak;(conv=>lhs;whnf);(first|done|exact rfl))));(focus((repeat(first|exact List.mem_cons_self|refine List.mem_cons_of_mem _ ?_))));(exact fU);(exact rfl);(exact rfl);(focus((first|exact dT|exact dQ|exact dR|exact wd_pt|exact rfl)));(exact rfl);(kernel_rfl);(kernel_rfl))|(apply iB;(exact rfl);(focus((apply ak;(conv=>lhs;whnf);(first|done|exact rfl))));(focus((repeat(first|exact List.mem_cons_self|refine List.mem_cons_of_mem _ ?_))));(exact rfl);(focus((first|exact fU|(apply lQ;assumption)|assumption|(apply get_map;exact hy h6)|exact rfl)));(exact rfl);(focus((first|exact dT|exact dQ|exact dR|exact wd_pt|exact rfl)));(exact rfl);(kernel_rfl);(kernel_rfl))|(apply d_load_row;(exact rfl);(focus((apply ak;(conv=>lhs;whnf);(first|done|exact rfl))));(focus((repeat(first|exact List.mem_cons_self|refine List.mem_cons_of_mem _ ?_))));(exact rfl);(focus(first|(apply dn;assumption)|exact rfl));(assumption);(kernel_rfl);(kernel_rfl)))) ?_);exact hW.out)):p:=f ⟨h⟩
theorem cw{p q:Prop}(h:q)(f:Wq q->p:=by(intro hW;(refine aL1 rfl rfl rfl mC ?_);exact hW.out)):p:=f ⟨h⟩
theorem zb29{p:Prop}(h:p:=by first|with_reducible rfl|exact uo (by omega)|exact uo (by simp)|(apply uo;omega)|(apply aI;(first|(apply decide_eq_false;omega)|(apply decide_eq_true;omega)|(simp<;>omega)))):p:=h
theorem iK{p:Prop}(h:p:=by(apply aQ;(conv=>lhs;whnf);(first|done|exact rfl))):p:=h
theorem ay{p:Prop}(h:p:=by(repeat(first|exact Ef|refine Bi iK zb29 ?_))):p:=h
theorem im{p q:Prop}(h:q)(f:Wq q->p:=by(intro hW;((refine gar ?_;refine zs4 ?_;refine cw ?_;refine zs6 ?_;refine af ?_));exact hW.out)):p:=f ⟨h⟩
theorem zs64{p q:Prop}(h:q)(f:Wq q->p:=by(intro hW;(refine aL1 rfl rfl rfl (by(first|(apply gG;(exact rfl);(focus((apply ak;(conv=>lhs;whnf);(first|done|exact rfl))));(focus((apply ak;(conv=>lhs;whnf);(first|done|exact rfl))));(kernel_rfl);(kernel_rfl);(omega);(focus((first|(apply get_map;exact hy h6)|(apply get_map;assumption)|(apply get_own;assumption)))))|(apply et;(exact rfl);(focus((apply ak;(conv=>lhs;whnf);(first|done|exact rfl))));(focus((apply ak;(conv=>lhs;whnf);(first|done|exact rfl))));(focus((repeat(first|exact List.mem_cons_self|refine List.mem_cons_of_mem _ ?_))));(kernel_rfl);(kernel_rfl);(focus(first|omega|(simp;omega)));(focus(first|(apply dn;assumption)|exact rfl))))) ?_);exact hW.out)):p:=f ⟨h⟩
theorem gR{p:Prop}(h:p:=by(first|(apply ak;(conv=>lhs;whnf);(first|done|exact rfl))|with_reducible exact bq|with_reducible exact fe|with_reducible exact nE|exact op_zero)):p:=h
theorem oh{p q:Prop}(h:q)(f:Wq q->p:=by(intro hW;((first|refine cr rfl rfl rfl aa tT aa aa ?_|((try refine av ?_);refine aL1 rfl rfl rfl tT ?_)));exact hW.out)):p:=f ⟨h⟩
theorem zs58{p q:Prop}(h:q)(f:Wq q->p:=by(intro hW;((first|(apply ah 9;(focus kernel_rfl);(decide+kernel))|(apply ah 8;(focus kernel_rfl);(decide+kernel))|(apply ah 7;(focus kernel_rfl);(decide+kernel))|(apply ah 6;(focus kernel_rfl);(decide+kernel))|(apply ah 5;(focus kernel_rfl);(decide+kernel))|(apply ah 4;(focus kernel_rfl);(decide+kernel))|(apply ah 3;(focus kernel_rfl);(decide+kernel))|(apply ah 2;(focus kernel_rfl);(decide+kernel)));simp only[List.take_succ_cons,List.take_zero,List.drop_succ_cons,List.drop_zero]);exact hW.out)):p:=f ⟨h⟩
theorem mA{p q:Prop}(h:q)(f:Wq q->p:=by(intro hW;(refine aL1 rfl rfl rfl xC ?_);exact hW.out)):p:=f ⟨h⟩
theorem bw{p:Prop}(h:p:=by(repeat(first|exact drop_nil|apply B9|(apply Ax;(exact rfl))))):p:=h
theorem zs40{p q:Prop}(h:q)(f:Wq q->p:=by(intro hW;((first|(apply ah 6;(focus kernel_rfl);(decide+kernel))|(apply ah 5;(focus kernel_rfl);(decide+kernel))|(apply ah 4;(focus kernel_rfl);(decide+kernel))|(apply ah 3;(focus kernel_rfl);(decide+kernel))|(apply ah 2;(focus kernel_rfl);(decide+kernel))|(apply ah 1;(focus kernel_rfl);(decide+kernel)));simp only[List.take_succ_cons,List.take_zero,List.drop_succ_cons,List.drop_zero]);exact hW.out)):p:=f ⟨h⟩
theorem tG{p q:Prop}(h:q)(f:Wq q->p:=by(intro hW;(((try refine av ?_);(refine je (i:=0) rfl rfl rfl bu bu aR aa lk aa dK aa ae ll ?_)));exact hW.out)):p:=f ⟨h⟩
theorem lj{p q:Prop}(h:q)(f:Wq q->p:=by(intro hW;((first|(refine aLs rfl rfl rfl rfl ?_ ?_;(focus(apply aQ;(conv=>lhs;whnf);(first|done|exact rfl|(apply aI;(first|(apply decide_eq_true;omega)|(apply decide_eq_false;omega)|assumption|(simp;done)))))))|refine aLw rfl rfl rfl rfl bI zb1 ?_));exact hW.out)):p:=f ⟨h⟩
end
section
open Go.RowKit
namespace DW
theorem jU{l:List Nat}{k:Nat}(h:k<l.length):l[k]?=some (l.getD k 0):=by rw[List.getD_eq_getElem?_getD,List.getElem?_eq_getElem h];rfl
theorem hd_of{l:List Nat}(h:Dg.dig 65536 l):l.take (tl l)=hd (Dg.vl 65536 l):=by
 obtain⟨h1,h2⟩:=Ed h;have:=Dg.ve (by decide) h1;rw[h2]at this;exact this.symm
abbrev trimQ(N:Nat)(e:Exit)(s:S):Prop:=(e= .normal\/e= .ret)/\s.gt 2= .own 18/\(18,(⟨3,1,(hd N).map hN⟩:Ow))∈s.ow
set_option maxRecDepth 20000 in
set_option maxHeartbeats 1000000 in
theorem zd(X0:Nat->Prop)(l:List Nat)(hl:l.length<=900000000)(hdg:Dg.dig 65536 l):∃c,Tryz.f188.body=some c/\aW Tryz.prog X0 Tryz.f188.ntmps c (trimQ (Dg.vl 65536 l)) ⟨aK 0 [dN l],[]⟩:=by
 refine⟨_,rfl,?_⟩;have HT:=hd_of hdg;simp only[aK]
 (repeat(first|refine gk fun K hK=>?_|refine zs2 ?_));refine cL ?_;(repeat(first|refine gk fun K hK=>?_|refine zs2 ?_));(refine gar ?_;refine zs4 ?_;refine zs5 ?_;refine zs6 ?_;refine af ?_);(repeat(first|refine gk fun K hK=>?_|refine zs2 ?_))
 (refine az (au (sl':=[(0,dN l),(3,zI l.length)]) (ow':=[]) ay aD) ?_)
 refine aV (fun k s=>tl l<=k/\k<=l.length/\s=⟨[(0,dN l),(3,zI k)],[]⟩) (m:=l.length) ⟨eD l,Nat.le_refl _,rfl⟩ fun k s hs=>?_;obtain⟨hk1,hk2,rfl⟩:=hs;have fin':∀(K:Exit->S->Prop),k=tl l->([]++(l.map hN).take k)=(hd (Dg.vl 65536 l)).map hN:=fun _ e=>by rw[List.nil_append,<-List.map_take,e,HT]
 by_cases hk0:k=0
 ·subst hk0;have ht:tl l=0:=by omega
  (repeat(first|refine gk fun K hK=>?_|refine zs2 ?_))
  (refine gar ?_;refine zs4 ?_;refine zs7 ?_;refine zs4 ?_;refine zs8 ?_;refine zs8 ?_;refine zs9 ?_;refine tJ ?_;refine lj ?_;refine xq ?_;refine gg ?_;refine af ?_)
  (repeat(first|refine gk fun K hK=>?_|refine zs2 ?_))
  refine kb gR (by rfl) ?_
  (repeat(first|refine gk fun K hK=>?_|refine zs2 ?_))
  refine CW ?_
  (repeat(first|refine gk fun K hK=>?_|refine zs2 ?_))
  exact⟨.inr rfl,by rfl,by rw[<-fin' (fun _ _=>True) ht.symm];exact List.mem_cons_self⟩
 ·have hx:=jU (l:=l) (k:=k-1) (by omega);obtain⟨x,hxd⟩:∃x,x=l.getD (k-1) 0:=⟨_,rfl⟩;rw[<-hxd]at hx;have hcast:(k:Int)-1=((k-1:Nat):Int):=by omega
  by_cases hx0:x=0
  ·have hlt : tl l < k := by
    rcases kI l with h|h
    ·omega
    ·apply Nat.lt_of_le_of_ne hk1;intro e;rw[e]at h;exact h (by rw[<-hxd,hx0])
   (repeat(first|refine gk fun K hK=>?_|refine zs2 ?_))
   refine CV ?_
   (repeat(first|refine gk fun K hK=>?_|refine zs2 ?_))
   refine jF gR (decide_eq_true (by omega)) ?_
   (repeat(first|refine gk fun K hK=>?_|refine zs2 ?_))
   refine tf ?_;simp only[nx,inB];exact⟨k-1,_,by omega,(au (sl':=[(0,dN l),(3,zI (k-1:Nat))]) (ow':=[]) ay aD),by omega,by omega,rfl⟩
  ·have ht : k = tl l := by
    apply Nat.le_antisymm _ hk1;apply Nat.le_of_not_lt;intro h;exact hx0 (by rw[hxd];exact ja l (k-1) (by omega))
   (repeat(first|refine gk fun K hK=>?_|refine zs2 ?_))
   refine CV ?_
   (repeat(first|refine gk fun K hK=>?_|refine zs2 ?_))
   refine kb gR (decide_eq_false (by omega)) ?_
   (repeat(first|refine gk fun K hK=>?_|refine zs2 ?_))
   refine CW ?_
   (repeat(first|refine gk fun K hK=>?_|refine zs2 ?_))
   exact⟨.inr rfl,by rfl,by rw[<-fin' (fun _ _=>True) ht];exact List.mem_cons_self⟩
theorem ze(l:List Nat)(hl:l.length<=900000000)(hdg:Dg.dig 65536 l):Fn Tryz.prog 188 [dN l] (dN (hd (Dg.vl 65536 l))):=by
 refine aY Tryz.func188 ae rfl rfl rfl fun X0=>?_;obtain⟨c,h1,h2⟩:=zd X0 l hl hdg;cases h1;refine h2.mono fun e s ⟨h3,h4,h5⟩=>?_;have:=EY (P:=Tryz.prog) (X0:=X0) (n:=Tryz.f188.ntmps) (fn:=Tryz.f188) (s:=s) (t:=2) rfl h4 h5;rcases h3 with rfl|rfl<;>exact this
theorem An(l:List Nat)(hl:l.length<=900000000)(hdg:Dg.dig 65536 l)(X:Nat->Prop)(w:World)(v:Value)(hX:XW X w)(hv:AR X w (dN l) v):Calls Tryz.prog 188 #[v] w fun e w'=>HRes w' e (Dg.vl 65536 l)/\Below w.heap.size w w':=by
 obtain⟨c,h1,h2⟩:=zd X l hl hdg;refine AH (ds:=[dN l]) Tryz.func188 h1 rfl rfl hX (by simp only[ATp];exact⟨v,[],rfl,hv,rfl⟩) _ h2 fun e s f a w' ⟨h3,h4,h5⟩ hh=>⟨h3,a.tmps.getD 2 undef,results_tmp rfl a.tmps _ _,⟨_,hd (Dg.vl 65536 l),rfl,?_,(Dg.bh (by decide) _).1,(Dg.bh (by decide) _).2⟩,hh.bl.low⟩;have h6:=hh.sl 2;rw[h4]at h6;simp only[SR]at h6;rw[h6];obtain⟨_,xs,⟨k1,k2⟩,k3⟩:=hh.ow _ h5;simp only[List.length_map]at k1 k2 k3;rcases k2 with⟨k4,k5⟩|⟨g,cap,cur,k4,_,hgg,hle,hm,hcs,htk⟩
 ·exact .inl ⟨k4,List.eq_nil_of_length_eq_zero k5⟩
 ·refine .inr ⟨g,cap,k4,hle,hm,(Array.getElem?_eq_some_iff.1 hgg).1,fun k x hk=>?_⟩;have hd':((hd (Dg.vl 65536 l)).map hN)[k]?=some (hN x):=by rw[List.getElem?_map,hk];rfl
  obtain⟨u,e1,_,_,e4⟩:=Els.at k3 hd';simp only[AR]at e1;have h7:=e4 0 u (by rw[dH (by rw[e1.1];rfl)];rfl);rw[Nat.mul_one,Nat.add_zero]at h7;rw[cell_of_row w' g _ cur _ (0,0) hgg];have hlt:=(List.getElem?_eq_some_iff.1 h7).1;rw[<-htk,List.length_take]at hlt;rw[<-htk,List.getElem?_take_of_lt (by omega),Array.getElem?_toList]at h7;rw[h7,e1.1]
theorem uG(s:Bool)(l:List Nat)(hl:l.length<=900000000)(hdg:Dg.dig 65536 l):Fn Tryz.prog 150 [.sc (.bool s),dN l] (.nm (Dg.iv s (Dg.vl 65536 l))):=by
 refine⟨Go.Proofs.enters_of Tryz.func150 ae rfl,fun X w vs hX hv=>?_⟩;simp only[ATp]at hv;obtain⟨v1,r1,e,h1,v2,r2,e2,h2,e3⟩:=hv;simp only[AR]at h1;rw[e2,e3,h1.1]at e;have:vs= #[.bool s,v2]:=Array.toList_inj.1 e;subst this;exact(Ao s l v2 (by omega) hdg w fun W hW=>An l hl hdg X W v2 (hX.grow hW) (h2.grow hW)).mono fun e w' ⟨⟨x,k1,k2⟩,k3⟩=>⟨_,k1,by simp only[AR];exact⟨x,rfl,k2⟩,k3⟩
set_option maxRecDepth 20000 in
set_option maxHeartbeats 1000000 in
theorem Ce(z:Int)(hz:(wds z.natAbs).length<=400000000):Fn Tryz.prog 151 [.nm z] (dN (hd z.natAbs)):=by
 refine aY Tryz.func151 ae rfl rfl rfl fun X0=>?_;simp only[aK];have hv:Dg.vl B32 (wds z.natAbs)=z.natAbs:=(Dg.bh (by decide) _).2;have hdu:Dg.dig B32 (wds z.natAbs):=(Dg.bh (by decide) _).1.dg;have hvl:Dg.vl 65536 (hw (wds z.natAbs))=z.natAbs:=by rw[Ds,hv]
 have TRIM:=ze (hw (wds z.natAbs)) (by rw[uO];omega) (Am hdu);rw[hvl]at TRIM
 (repeat(first|refine gk fun K hK=>?_|refine zs2 ?_));(refine gar ?_;refine gQ ?_;refine zs3 ?_;refine af ?_);(repeat(first|refine gk fun K hK=>?_|refine zs2 ?_));refine cL ?_;(repeat(first|refine gk fun K hK=>?_|refine zs2 ?_));refine aX ?_;(repeat(first|refine gk fun K hK=>?_|refine zs2 ?_))
 refine az (eu (t:=3) (k:=3) (T:=3) (wd:=1) iK rfl rfl cM) ?_
 (refine az (au (sl':=[(1,.pt (.nm z)),(3,.own 3),(4,zI 0)]) (ow':=[(3,⟨3,1,[]⟩)]) ay aD) ?_)
 refine aV (fun r s=>∃k,k<=(wds z.natAbs).length/\r=(wds z.natAbs).length-k/\s=⟨[(1,.pt (.nm z)),(3,.own 3),(4,zI k)],[(3,⟨3,1,(hw ((wds z.natAbs).take k)).map hN⟩)]⟩) (m:=(wds z.natAbs).length) ⟨0,by omega,rfl,by simp[hw]⟩ fun r s hs=>?_;obtain⟨k,hk,rfl,rfl⟩:=hs;by_cases hkl:k<(wds z.natAbs).length
 ·have hx:=jU hkl;obtain⟨x,hxd⟩:∃x,x=(wds z.natAbs).getD k 0:=⟨_,rfl⟩;rw[<-hxd]at hx;have hx32:x<4294967296:=hdu x (List.mem_of_getElem? hx);have hql:x/65536<65536:=by omega
  (repeat(first|refine gk fun K hK=>?_|refine zs2 ?_))
  refine pe ?_
  (repeat(first|refine gk fun K hK=>?_|refine zs2 ?_))
  refine jF gR (decide_eq_true (by omega)) ?_
  (repeat(first|refine gk fun K hK=>?_|refine zs2 ?_))
  (((first|(apply ah 16;(focus kernel_rfl);(decide+kernel))|(apply ah 15;(focus kernel_rfl);(decide+kernel))|(apply ah 14;(focus kernel_rfl);(decide+kernel))|(apply ah 13;(focus kernel_rfl);(decide+kernel))|(apply ah 12;(focus kernel_rfl);(decide+kernel))|(apply ah 11;(focus kernel_rfl);(decide+kernel))|(apply ah 10;(focus kernel_rfl);(decide+kernel))|(apply ah 9;(focus kernel_rfl);(decide+kernel)));simp only[List.take_succ_cons,List.take_zero,List.drop_succ_cons,List.drop_zero]);refine aZ ?_;refine wT ?_;refine bR ?_;refine aZ ?_;refine fY ?_;refine bR ?_;(first|refine cr rfl rfl rfl aa zb10 aa aa ?_|((try refine av ?_);refine aL1 rfl rfl rfl zb10 ?_));refine zs29 ?_;refine wT ?_;refine bR ?_;refine aZ ?_;refine fY ?_;refine bR ?_;(first|refine cr rfl rfl rfl aa zb9 aa aa ?_|((try refine av ?_);refine aL1 rfl rfl rfl zb9 ?_));refine zs29 ?_;(first|refine cr rfl rfl rfl aa zb28 aa aa ?_|((try refine av ?_);refine aL1 rfl rfl rfl zb28 ?_));((try refine av ?_);(refine nn rfl rfl rfl rfl bu bu aR aa tU ae ae (by(simp only[List.length_map,uO,List.length_take,List.length_cons,List.length_nil];omega)) cM tS ?_));refine oh ?_;refine eA ?_)
  (repeat(first|refine gk fun K hK=>?_|refine zs2 ?_))
  refine ba ?_;simp only[nx,inB];refine⟨(wds z.natAbs).length-(k+1),_,by omega,(au (sl':=[(1,.pt (.nm z)),(3,.own 3),(4,zI (k+1:Nat))]) (ow':=[(3,⟨3,1,(hw ((wds z.natAbs).take k)).map hN++[hN (x%65536),hN (x/65536)]⟩)]) ay aD),k+1,by omega,rfl,?_⟩;rw[EV hx,List.map_append];rfl
 ·have hke:k=(wds z.natAbs).length:=by omega
  subst hke;rw[List.take_length]
  (repeat(first|refine gk fun K hK=>?_|refine zs2 ?_))
  refine pe ?_
  (repeat(first|refine gk fun K hK=>?_|refine zs2 ?_))
  refine kb gR (decide_eq_false (by omega)) ?_
  (repeat(first|refine gk fun K hK=>?_|refine zs2 ?_))
  refine az (aE (k:=3) aR bz bw) ?_;refine im ?_
  (repeat(first|refine gk fun K hK=>?_|refine zs2 ?_))
  exact⟨_,Sh.refl,.one (.tmp 2) _ rfl (.tmp 2 rfl)⟩
end DW
end
section
open Go.RowKit
namespace DW
theorem fT{n k:Nat}(h:n<65536^k):(hd n).length<=k:=by
 apply Nat.le_of_not_lt;intro hlt;obtain⟨j,hj⟩:∃j,(hd n).length=j+1:=⟨(hd n).length-1,by omega⟩;have h1:=Dg.gA hj (Dg.bh (by decide) n).1;rw[show Dg.vl 65536 (hd n)=n from(Dg.bh (by decide) n).2]at h1;have h2:=Nat.pow_le_pow_right (n:=65536) (by omega) (show k<=j by omega);omega
theorem jT(n:Nat):n<65536^(hd n).length:=by
 have h:=Dg.aP (Dg.bh (b:=65536) (by decide) n).1.dg;rw[(Dg.bh (by decide) n).2]at h;exact h
theorem fS{m n:Nat}(h:m<=n):(hd m).length<=(hd n).length:=fT (Nat.lt_of_le_of_lt h (jT n))
theorem vO(n:Nat):(wds n).length<=(hd n).length:=by
 by_cases h0:(wds n).length=0
 ·omega
 ·obtain⟨j,hj⟩:∃j,(wds n).length=j+1:=⟨(wds n).length-1,by omega⟩;have h1:=Dg.gA hj (Dg.bh (b:=4294967296) (by decide) n).1;rw[show Dg.vl 4294967296 (wds n)=n from(Dg.bh (by decide) n).2]at h1;have h2:(4294967296:Nat)^j=65536^(2*j):=by rw[Nat.pow_mul]
  rw[h2]at h1;have h3:=Nat.lt_of_le_of_lt h1 (jT n);have h4:=(Nat.pow_lt_pow_iff_right (by omega:1<65536)).1 h3;omega
theorem eR(n:Nat):Dg.dig 65536 (hd n):=(Dg.bh (by decide) n).1.dg
theorem eF(n:Nat):Dg.vl 65536 (hd n)=n:=(Dg.bh (by decide) n).2
theorem js(n:Nat):(hd n).length=0↔n=0:=by
 rw[List.length_eq_zero_iff];exact Dg.Fj (by decide)
def Hf(z:Int):Prop:=(hd z.natAbs).length<=200000000
theorem Hf.neg{z:Int}(h:Hf z):Hf (-z):=by unfold Hf;rw[Int.natAbs_neg];exact h
theorem fi{z:Int}(h:Hf z):Fn Tryz.prog 151 [.nm z] (dN (hd z.natAbs)):=Ce z (by have:=vO z.natAbs;unfold Hf at h;omega)
theorem pq{l:List Nat}(hl:l.length<=900000000)(hdg:Dg.dig 65536 l){n:Nat}(hv:Dg.vl 65536 l=n):Fn Tryz.prog 188 [dN l] (dN (hd n)):=hv▸ze l hl hdg
theorem fF{s:Bool}{n:Nat}(h:(hd n).length<=900000000){z:Int}(hz:Dg.iv s n=z):Fn Tryz.prog 150 [.sc (.bool s),dN (hd n)] (.nm z):=by
 have:=uG s (hd n) h (eR n);rw[eF,hz]at this;exact this
theorem pW{z:Int}:Dg.iv (decide (z<0)) z.natAbs=z:=by unfold Dg.iv;split<;>rename_i h<;>simp at h<;>omega
theorem GJ{z:Int}:Dg.iv (!decide (z<0)) z.natAbs= -z:=by unfold Dg.iv;split<;>rename_i h<;>simp at h<;>omega
set_option maxRecDepth 20000
set_option maxHeartbeats 1000000
theorem BF(z:Int)(hz:Hf z):Fn Tryz.prog 80 [.nm z] (.nm z):=by
 have D1:=fi hz;have M1:=fF (s:=decide (z<0)) (n:=z.natAbs) (by unfold Hf at hz;omega) pW;refine aY Tryz.func80 ae rfl rfl rfl fun X0=>?_;simp only[aK]
 (repeat(first|refine gk fun K hK=>?_|refine zs2 ?_));refine te ?_;(repeat(first|refine gk fun K hK=>?_|refine zs2 ?_));(refine zs35 ?_;refine tH ?_;refine bR ?_;refine bR ?_;refine og ?_;refine lg ?_;refine tG ?_;refine eA ?_);(repeat(first|refine gk fun K hK=>?_|refine zs2 ?_))
 exact⟨_,aE (k:=2) aR bz bw,.one (.cell 2 62) _ rfl (.cell 2 _ _ rfl rfl ae ae)⟩
theorem yg(z:Int)(hz:Hf z):Fn Tryz.prog 116 [.nm z] (.nm (-z)):=by
 have D1:=fi hz;have M1:=fF (s:=!decide (z<0)) (n:=z.natAbs) (by unfold Hf at hz;omega) GJ;refine aY Tryz.func116 ae rfl rfl rfl fun X0=>?_;simp only[aK]
 (repeat(first|refine gk fun K hK=>?_|refine zs2 ?_));refine te ?_;(repeat(first|refine gk fun K hK=>?_|refine zs2 ?_));(refine zs40 ?_;refine tH ?_;refine bR ?_;(first|refine cr rfl rfl rfl aa zb45 aa aa ?_|((try refine av ?_);refine aL1 rfl rfl rfl zb45 ?_));refine bR ?_;refine og ?_;refine lg ?_;refine tG ?_;refine eA ?_);(repeat(first|refine gk fun K hK=>?_|refine zs2 ?_))
 exact⟨_,aE (k:=2) aR bz bw,.one (.cell 2 62) _ rfl (.cell 2 _ _ rfl rfl ae ae)⟩
theorem kK(z:Int)(hz:Hf z):Fn Tryz.prog 106 [.nm z] (zI (sgn z)):=by
 have D1:=fi hz;refine aY Tryz.func106 ae rfl rfl rfl fun X0=>?_;simp only[aK];by_cases h0:z=0
 ·have hl:(hd z.natAbs).length=0:=(js _).2 (by omega)
  (repeat(first|refine gk fun K hK=>?_|refine zs2 ?_));(refine gar ?_;refine gQ ?_;refine gP ?_;refine af ?_);(repeat(first|refine gk fun K hK=>?_|refine zs2 ?_));(refine gar ?_;refine bs ?_;refine cw ?_;refine zs5 ?_;refine mA ?_;refine af ?_);(repeat(first|refine gk fun K hK=>?_|refine zs2 ?_))
  refine jF gR (decide_eq_true (by omega)) ?_
  (repeat(first|refine gk fun K hK=>?_|refine zs2 ?_));refine aX ?_;(repeat(first|refine gk fun K hK=>?_|refine zs2 ?_))
  rw[show sgn z=0 by unfold sgn;rw[if_pos h0]];exact⟨_,Sh.refl,.one (.tmp 2) _ rfl (.tmp 2 rfl)⟩
 ·have hl:(hd z.natAbs).length≠0:=fun e=>h0 (by have:=(js _).1 e;omega)
  (repeat(first|refine gk fun K hK=>?_|refine zs2 ?_));(refine gar ?_;refine gQ ?_;refine gP ?_;refine af ?_);(repeat(first|refine gk fun K hK=>?_|refine zs2 ?_));(refine gar ?_;refine bs ?_;refine cw ?_;refine zs5 ?_;refine mA ?_;refine af ?_);(repeat(first|refine gk fun K hK=>?_|refine zs2 ?_))
  refine kb gR (decide_eq_false (by omega)) ?_
  (repeat(first|refine gk fun K hK=>?_|refine zs2 ?_));(refine gar ?_;refine mz ?_;refine bs ?_;refine af ?_);(repeat(first|refine gk fun K hK=>?_|refine zs2 ?_))
  by_cases h1:z<0
  ·refine jF gR (decide_eq_true (by omega)) ?_
   (repeat(first|refine gk fun K hK=>?_|refine zs2 ?_));refine aX ?_;(repeat(first|refine gk fun K hK=>?_|refine zs2 ?_))
   rw[show sgn z= -1 by unfold sgn;rw[if_neg (by omega),if_pos h1]];exact⟨_,Sh.refl,.one (.tmp 2) _ rfl (.tmp 2 rfl)⟩
  ·refine kb gR (decide_eq_false (by omega)) ?_
   (repeat(first|refine gk fun K hK=>?_|refine zs2 ?_));refine aX ?_;(repeat(first|refine gk fun K hK=>?_|refine zs2 ?_))
   rw[show sgn z=1 by unfold sgn;rw[if_neg (by omega),if_neg (by omega)]];exact⟨_,Sh.refl,.one (.tmp 2) _ rfl (.tmp 2 rfl)⟩
end DW
end
section
open Go.RowKit
namespace DW
theorem Ea{b:Nat}(l:List Nat)(x:Nat):Dg.vl b (l++[x])=Dg.vl b l+b^l.length*x:=by rw[Dg.cu];simp[Dg.vl]
theorem jA{b:Nat}{l:List Nat}{x:Nat}(h:Dg.dig b l)(hx:x<b):Dg.dig b (l++[x]):=Dg.gH h fun y hy=>by
 rw[List.mem_singleton.1 hy];exact hx
theorem jr(l:List Nat)(x:Nat):(l++[x]).map hN=l.map hN++[hN x]:=by rw[List.map_append];rfl
theorem zW{l:List Nat}{m:Nat}(h:65536^l.length*m<65536^4)(hm:0<m):l.length<4:=by
 have h1:65536^l.length<=65536^l.length*m:=Nat.le_mul_of_pos_right _ hm;exact(Nat.pow_lt_pow_iff_right (by omega:1<65536)).1 (Nat.lt_of_le_of_lt h1 h)
theorem wm(l:List Nat)(m:Nat):Dg.vl 65536 (l++[m%65536])+65536^(l++[m%65536]).length*(m/65536)=Dg.vl 65536 l+65536^l.length*m:=by
 rw[Ea,List.length_append,List.length_singleton,Nat.pow_succ,Nat.mul_assoc,Nat.add_assoc,<-Nat.mul_add];congr 2;omega
set_option maxRecDepth 20000
set_option maxHeartbeats 1000000
theorem of_d(z:Int)(hz: -9223372036854775808<=z/\z<=9223372036854775807):Fn Tryz.prog 81 [zI z] (.nm z):=by
 refine aY Tryz.func81 ae rfl rfl rfl fun X0=>?_;simp only[aK];have hb:z.natAbs<65536^4:=by rw[show(65536:Nat)^4=18446744073709551616 by rfl];omega
 (repeat(first|refine gk fun K hK=>?_|refine zs2 ?_));(refine gar ?_;refine tI ?_;refine af ?_);(repeat(first|refine gk fun K hK=>?_|refine zs2 ?_));refine cL ?_;(repeat(first|refine gk fun K hK=>?_|refine zs2 ?_));(refine gar ?_;refine zs4 ?_;refine zs7 ?_;refine zs6 ?_;refine af ?_);(repeat(first|refine gk fun K hK=>?_|refine zs2 ?_))
 refine az (eu (t:=3) (k:=3) (T:=3) (wd:=1) iK rfl rfl cM) ?_;by_cases hn:z<0
 ·have M : ∀ l : List Nat, Dg.vl 65536 l = z.natAbs -> Dg.dig 65536 l -> l.length <= 4 -> Fn Tryz.prog 150 [.sc (.bool (decide (z < 0))), dN l] (.nm z) := fun l h1 h2 h3 => by
   have:=uG (decide (z<0)) l (by omega) h2;rwa[h1,pW]at this
  (refine az (au (sl':=[(0,zI (-((z.natAbs:Nat):Int))),(2, .opt 2 0),(3, .own 3),(4, .sc (.bool (decide (z<0))))]) (ow':=[(3,⟨3,1,[]⟩),(2,⟨62,2,[.nm 0]⟩)]) ay aD) ?_)
  refine aV (fun r s=>∃l,Dg.dig 65536 l/\l.length<=4/\Dg.vl 65536 l+65536^l.length*r=z.natAbs/\r<=9223372036854775808/\s=⟨[(0,zI (-(r:Int))),(2, .opt 2 0),(3, .own 3),(4, .sc (.bool (decide (z<0))))],[(3,⟨3,1,l.map hN⟩),(2,⟨62,2,[.nm 0]⟩)]⟩) (m:=z.natAbs) ⟨[],fun _ h=>(by cases h),by simp,by simp[Dg.vl],by omega,rfl⟩ fun r s hs=>?_;obtain⟨l,h1,h2,h3,h4,rfl⟩:=hs;by_cases hr:r=0
  ·subst hr
   (repeat(first|refine gk fun K hK=>?_|refine zs2 ?_));refine il ?_;(repeat(first|refine gk fun K hK=>?_|refine zs2 ?_))
   refine aB ?_
   (repeat(first|refine gk fun K hK=>?_|refine zs2 ?_))
   refine az (aE (k:=3) aR bz bw) ?_
   (refine gar ?_;refine zs4 ?_;refine zs4 ?_;refine zs45 ?_;refine fX ?_;refine af ?_)
   (repeat(first|refine gk fun K hK=>?_|refine zs2 ?_))
   exact⟨_,aE (k:=2) aR bz bw, .one (.cell 2 62) _ rfl (.cell 2 _ _ rfl rfl ae ae)⟩
  ·have hl:=zW (l:=l) (m:=r) (by omega) (by omega);have e1:(-(r:Int)).tmod 65536= -((r%65536:Nat):Int):=by rw[Int.neg_tmod];rfl
   have e2:(-(r:Int)).tdiv 65536= -((r/65536:Nat):Int):=by rw[Int.neg_tdiv];rfl
   have h5:=wm l r;have h6:=jA h1 (Nat.mod_lt r (by omega:0<65536));have h7:(l++[r%65536]).length=l.length+1:=by simp
   have h8:=jr l (r%65536)
   (repeat(first|refine gk fun K hK=>?_|refine zs2 ?_));refine il ?_;(repeat(first|refine gk fun K hK=>?_|refine zs2 ?_))
   refine aA ?_;by_cases hd0:r%65536=0;all_goals
    (repeat(first|refine gk fun K hK=>?_|refine zs2 ?_));(refine gar ?_;refine zs4 ?_;refine qI ?_;refine zs6 ?_;refine af ?_);(repeat(first|refine gk fun K hK=>?_|refine zs2 ?_));refine gf ?_;(repeat(first|refine gk fun K hK=>?_|refine zs2 ?_))
    (first|(refine aA ?_;(repeat(first|refine gk fun K hK=>?_|refine zs2 ?_));(refine gar ?_;refine zs4 ?_;(refine aL1 rfl rfl rfl (by(apply d_neg;(exact rfl);(focus((apply ak;(conv=>lhs;whnf);(first|done|exact rfl))));(omega))) ?_);refine zs6 ?_;refine af ?_);(repeat(first|refine gk fun K hK=>?_|refine zs2 ?_)))|(refine aB ?_;(repeat(first|refine gk fun K hK=>?_|refine zs2 ?_))))
    (refine az (au (sl':=[(0,zI (-(r:Int))),(2, .opt 2 0),(3, .own 3),(4, .sc (.bool (decide (z<0)))),(5,hN (r%65536))]) (ow':=[(3,⟨3,1,l.map hN⟩),(2,⟨62,2,[.nm 0]⟩)]) ay aD) ?_)
    (repeat(first|refine gk fun K hK=>?_|refine zs2 ?_));refine pd ?_;(repeat(first|refine gk fun K hK=>?_|refine zs2 ?_));refine oZ ?_;(repeat(first|refine gk fun K hK=>?_|refine zs2 ?_))
    simp only[nx,inB];exact⟨r/65536,_,by omega,(au (sl':=[(0,zI (-((r/65536:Nat):Int))),(2, .opt 2 0),(3, .own 3),(4, .sc (.bool (decide (z<0))))]) (ow':=[(3,⟨3,1,l.map hN++[hN (r%65536)]⟩),(2,⟨62,2,[.nm 0]⟩)]) ay aD),l++[r%65536],h6,by omega,by omega,by omega,by rw[h8]⟩
 ·have M : ∀ l : List Nat, Dg.vl 65536 l = z.natAbs -> Dg.dig 65536 l -> l.length <= 4 -> Fn Tryz.prog 150 [.sc (.bool (decide (z < 0))), dN l] (.nm z) := fun l h1 h2 h3 => by
   have:=uG (decide (z<0)) l (by omega) h2;rwa[h1,pW]at this
  (refine az (au (sl':=[(0,zI ((z.natAbs:Nat):Int)),(2, .opt 2 0),(3, .own 3),(4, .sc (.bool (decide (z<0))))]) (ow':=[(3,⟨3,1,[]⟩),(2,⟨62,2,[.nm 0]⟩)]) ay aD) ?_)
  refine aV (fun r s=>∃l,Dg.dig 65536 l/\l.length<=4/\Dg.vl 65536 l+65536^l.length*r=z.natAbs/\r<=9223372036854775807/\s=⟨[(0,zI (r:Int)),(2, .opt 2 0),(3, .own 3),(4, .sc (.bool (decide (z<0))))],[(3,⟨3,1,l.map hN⟩),(2,⟨62,2,[.nm 0]⟩)]⟩) (m:=z.natAbs) ⟨[],fun _ h=>(by cases h),by simp,by simp[Dg.vl],by omega,rfl⟩ fun r s hs=>?_;obtain⟨l,h1,h2,h3,h4,rfl⟩:=hs;by_cases hr:r=0
  ·subst hr
   (repeat(first|refine gk fun K hK=>?_|refine zs2 ?_));refine il ?_;(repeat(first|refine gk fun K hK=>?_|refine zs2 ?_))
   refine aB ?_
   (repeat(first|refine gk fun K hK=>?_|refine zs2 ?_))
   refine az (aE (k:=3) aR bz bw) ?_
   (refine gar ?_;refine zs4 ?_;refine zs4 ?_;refine zs45 ?_;refine fX ?_;refine af ?_)
   (repeat(first|refine gk fun K hK=>?_|refine zs2 ?_))
   exact⟨_,aE (k:=2) aR bz bw, .one (.cell 2 62) _ rfl (.cell 2 _ _ rfl rfl ae ae)⟩
  ·have hl:=zW (l:=l) (m:=r) (by omega) (by omega);have h5:=wm l r;have h6:=jA h1 (Nat.mod_lt r (by omega:0<65536));have h7:(l++[r%65536]).length=l.length+1:=by simp
   have h8:=jr l (r%65536)
   (repeat(first|refine gk fun K hK=>?_|refine zs2 ?_));refine il ?_;(repeat(first|refine gk fun K hK=>?_|refine zs2 ?_))
   refine aA ?_
   (repeat(first|refine gk fun K hK=>?_|refine zs2 ?_));(refine gar ?_;refine zs4 ?_;refine qI ?_;refine zs6 ?_;refine af ?_);(repeat(first|refine gk fun K hK=>?_|refine zs2 ?_));refine gf ?_;(repeat(first|refine gk fun K hK=>?_|refine zs2 ?_))
   refine aB ?_
   (repeat(first|refine gk fun K hK=>?_|refine zs2 ?_));refine pd ?_;(repeat(first|refine gk fun K hK=>?_|refine zs2 ?_));refine oZ ?_;(repeat(first|refine gk fun K hK=>?_|refine zs2 ?_))
   simp only[nx,inB];exact⟨r/65536,_,by omega,(au (sl':=[(0,hN (r/65536)),(2, .opt 2 0),(3, .own 3),(4, .sc (.bool (decide (z<0))))]) (ow':=[(3,⟨3,1,l.map hN++[hN (r%65536)]⟩),(2,⟨62,2,[.nm 0]⟩)]) ay aD),l++[r%65536],h6,by omega,by omega,by omega,by rw[h8]⟩
end DW
end
section
open Go.RowKit
namespace DW
theorem GP{a b:Nat}(h:hd a=hd b):a=b:=by rw[<-eF a,<-eF b,h]
theorem sK{a b:Nat}(h:(hd a).length<(hd b).length):a<b:=by
 have:=Dg.eO (b:=65536) (by decide) (Dg.bh (by decide) a).1 (Dg.bh (by decide) b).1 h;rwa[(Dg.bh (by decide) a).2,(Dg.bh (by decide) b).2]at this
theorem Aq{a b i:Nat}(hi:i<(hd a).length)(hl:(hd a).length=(hd b).length)(hd':(hd a).drop (i+1)=(hd b).drop (i+1))(h:(hd a).getD i 0<(hd b).getD i 0):a<b:=by
 have:=Dg.lex_lt (eR a) hi hl hd' h;rwa[eF,eF]at this
theorem wu{a i:Nat}(hi:i<(hd a).length):(hd a).drop i=(hd a).getD i 0::(hd a).drop (i+1):=by
 rw[List.drop_eq_getElem_cons hi,List.getD_eq_getElem?_getD,List.getElem?_eq_getElem hi];rfl
theorem jt{a i:Nat}(hi:i<(hd a).length):(hd a)[i]?=some ((hd a).getD i 0):=jU hi
theorem nM{l:List Nat}{i:Nat}(h:l.length<=i):l.getD i 0=0:=by rw[List.getD_eq_getElem?_getD,List.getElem?_eq_none h];rfl
set_option maxRecDepth 20000
set_option maxHeartbeats 1000000
theorem Ah(a b:Nat)(ha:(hd a).length<=900000000)(hb:(hd b).length<=900000000):Fn Tryz.prog 153 [dN (hd a),dN (hd b)] (.sc (.bool (decide (a<b)))):=by
 refine aY Tryz.func153 ae rfl rfl rfl fun X0=>?_;simp only[aK];by_cases hl:(hd a).length=(hd b).length
 ·(repeat(first|refine gk fun K hK=>?_|refine zs2 ?_));refine bZ ?_;(repeat(first|refine gk fun K hK=>?_|refine zs2 ?_));refine CU ?_;(repeat(first|refine gk fun K hK=>?_|refine zs2 ?_))
  refine aB ?_
  (repeat(first|refine gk fun K hK=>?_|refine zs2 ?_));(refine gar ?_;refine zs4 ?_;refine zs5 ?_;refine zs19 ?_;refine zs6 ?_;refine af ?_);(repeat(first|refine gk fun K hK=>?_|refine zs2 ?_))
  (refine az (au (sl':=[(0,dN (hd a)),(1,dN (hd b)),(5,zI ((hd a).length-1))]) (ow':=[]) ay aD) ?_)
  refine aV (fun r s=>r<=(hd a).length/\(hd a).drop r=(hd b).drop r/\s=⟨[(0,dN (hd a)),(1,dN (hd b)),(5,zI (r-1))],[]⟩) (m:=(hd a).length) ⟨Nat.le_refl _,by rw[List.drop_length,hl,List.drop_length],rfl⟩ fun r s hs=>?_;obtain⟨h1,h2,rfl⟩:=hs;by_cases hr:r=0
  ·have e:a=b:=GP (by subst hr;simpa using h2)
   (repeat(first|refine gk fun K hK=>?_|refine zs2 ?_));refine gf ?_;(repeat(first|refine gk fun K hK=>?_|refine zs2 ?_))
   refine aB ?_
   (repeat(first|refine gk fun K hK=>?_|refine zs2 ?_));refine bZ ?_;(repeat(first|refine gk fun K hK=>?_|refine zs2 ?_))
   rw[show decide (a<b)=false from decide_eq_false (by omega)];exact⟨_,Sh.refl, .one (.tmp 4) _ rfl (.tmp 4 rfl)⟩
  ·obtain⟨i,rfl⟩:∃i,r=i+1:=⟨r-1,by omega⟩;have hi:i<(hd a).length:=by omega
   have hi':i<(hd b).length:=by omega
   have hx:=jt hi;have hy:=jt hi';have hc:((i+1:Nat):Int)-1=(i:Int):=by omega
   have k1:=wu hi;have k2:=wu hi';have k3:(hd a).getD i 0<(hd b).getD i 0->a<b:=Aq hi hl h2;have k4:(hd b).getD i 0<(hd a).getD i 0->b<a:=Aq hi' hl.symm h2.symm;obtain⟨x,hxd⟩:∃x,x=(hd a).getD i 0:=⟨_,rfl⟩;obtain⟨y,hyd⟩:∃y,y=(hd b).getD i 0:=⟨_,rfl⟩;rw[<-hxd]at hx k1 k3 k4;rw[<-hyd]at hy k2 k3 k4;by_cases hxy:x=y
   ·have k5:(hd a).drop i=(hd b).drop i:=by rw[k1,k2,hxy,h2]
    (repeat(first|refine gk fun K hK=>?_|refine zs2 ?_));refine gf ?_;(repeat(first|refine gk fun K hK=>?_|refine zs2 ?_))
    refine aA ?_
    (repeat(first|refine gk fun K hK=>?_|refine zs2 ?_));refine CT ?_;(repeat(first|refine gk fun K hK=>?_|refine zs2 ?_))
    refine aB ?_
    (repeat(first|refine gk fun K hK=>?_|refine zs2 ?_));refine tf ?_;(repeat(first|refine gk fun K hK=>?_|refine zs2 ?_))
    simp only[nx,inB];exact⟨i,_,by omega,(au (sl':=[(0,dN (hd a)),(1,dN (hd b)),(5,zI ((i:Int)-1))]) (ow':=[]) ay aD),by omega,k5,rfl⟩
   ·have k5 : decide ((x : Int) < (y : Int)) = decide (a < b) := by
     by_cases h:x<y
     ·rw[decide_eq_true (by omega),decide_eq_true (k3 h)]
     ·rw[decide_eq_false (by omega),decide_eq_false (by have:=k4 (by omega);omega)]
    (repeat(first|refine gk fun K hK=>?_|refine zs2 ?_));refine gf ?_;(repeat(first|refine gk fun K hK=>?_|refine zs2 ?_))
    refine aA ?_
    (repeat(first|refine gk fun K hK=>?_|refine zs2 ?_));refine CT ?_;(repeat(first|refine gk fun K hK=>?_|refine zs2 ?_))
    refine aA ?_
    (repeat(first|refine gk fun K hK=>?_|refine zs2 ?_));(refine zs58 ?_;refine aZ ?_;refine aZ ?_;refine tE ?_;refine qH ?_;refine aZ ?_;refine aZ ?_;refine tE ?_;refine qH ?_;(first|refine cr rfl rfl rfl aa xB aa aa ?_|((try refine av ?_);refine aL1 rfl rfl rfl xB ?_));refine oh ?_;refine eA ?_);(repeat(first|refine gk fun K hK=>?_|refine zs2 ?_))
    rw[<-k5];exact⟨_,Sh.refl, .one (.tmp 4) _ rfl (.tmp 4 rfl)⟩
 ·have k5 : decide (((hd a).length : Int) < ((hd b).length : Int)) = decide (a < b) := by
   by_cases h:(hd a).length<(hd b).length
   ·rw[decide_eq_true (by omega),decide_eq_true (sK h)]
   ·rw[decide_eq_false (by omega),decide_eq_false (by have:=sK (a:=b) (b:=a) (by omega);omega)]
  (repeat(first|refine gk fun K hK=>?_|refine zs2 ?_));refine bZ ?_;(repeat(first|refine gk fun K hK=>?_|refine zs2 ?_));refine CU ?_;(repeat(first|refine gk fun K hK=>?_|refine zs2 ?_))
  refine aA ?_
  (repeat(first|refine gk fun K hK=>?_|refine zs2 ?_));(refine gar ?_;refine zs4 ?_;refine zs5 ?_;refine zs4 ?_;refine zs5 ?_;refine lh ?_;refine zs6 ?_;refine af ?_);(repeat(first|refine gk fun K hK=>?_|refine zs2 ?_))
  rw[<-k5];exact⟨_,Sh.refl, .one (.tmp 4) _ rfl (.tmp 4 rfl)⟩
theorem zS{a b o:List Nat}{i c:Nat}(hi:o.length=i)(h:Dg.vl 65536 o+c*65536^i=Dg.vl 65536 (a.take i)+Dg.vl 65536 (b.take i)):
  Dg.vl 65536 (o++[(c+a.getD i 0+b.getD i 0)%65536])+(c+a.getD i 0+b.getD i 0)/65536*65536^(i+1)=Dg.vl 65536 (a.take (i+1))+Dg.vl 65536 (b.take (i+1)):=by
 have:=Dg.jM (B:=65536) (a:=a) (b:=b) (o:=o++[0]) (i:=i) (c:=c) cA zb52;rw[show a.getD i 0+b.getD i 0+c=c+a.getD i 0+b.getD i 0 by omega,Dg.fE cA,List.take_append_of_le_length (by omega),List.take_of_length_le (by omega)]at this;exact this
theorem we(a b:Nat)(ha:(hd a).length<=400000000)(hb:(hd b).length<=400000000):Fn Tryz.prog 152 [dN (hd a),dN (hd b)] (dN (hd (a+b))):=by
 refine aY Tryz.func152 ae rfl rfl rfl fun X0=>?_;simp only[aK]
 (repeat(first|refine gk fun K hK=>?_|refine zs2 ?_));refine cL ?_;(repeat(first|refine gk fun K hK=>?_|refine zs2 ?_));refine cL ?_;(repeat(first|refine gk fun K hK=>?_|refine zs2 ?_));refine aX ?_;(repeat(first|refine gk fun K hK=>?_|refine zs2 ?_));refine aX ?_;(repeat(first|refine gk fun K hK=>?_|refine zs2 ?_))
 refine az (eu (t:=5) (k:=5) (T:=3) (wd:=1) iK rfl rfl cM) ?_
 (refine az (au (sl':=[(0,dN (hd a)),(1,dN (hd b)),(5, .own 5),(6,zI 0),(7,zI 0)]) (ow':=[(5,⟨3,1,[]⟩)]) ay aD) ?_)
 obtain⟨M,hM⟩:∃M,M=max (hd a).length (hd b).length:=⟨_,rfl⟩;refine aV (fun r s=>∃i o c,r=M+1-i/\o.length=i/\Dg.dig 65536 o/\c<=1/\(i<=M\/(i<=M+1/\c=0))/\Dg.vl 65536 o+c*65536^i=Dg.vl 65536 ((hd a).take i)+Dg.vl 65536 ((hd b).take i)/\s=⟨[(0,dN (hd a)),(1,dN (hd b)),(5, .own 5),(6,zI (c:Nat)),(7,zI (i:Nat))],[(5,⟨3,1,o.map hN⟩)]⟩) (m:=M+1) ⟨0,[],0,by omega,rfl,fun _ h=>(by cases h),by omega, .inl (by omega),by simp[Dg.vl],rfl⟩ fun r s hs=>?_;obtain⟨i,o,c,rfl,ho,hdo,hc,hiM,hv,rfl⟩:=hs;have STEP:=zS (a:=hd a) (b:=hd b) ho hv;have hxl:(hd a).getD i 0<65536:=Dg.aJ (eR a) (by decide) i;have hyl:(hd b).getD i 0<65536:=Dg.aJ (eR b) (by decide) i;have hx:i<(hd a).length->(hd a)[i]?=some ((hd a).getD i 0):=jt;have hy:i<(hd b).length->(hd b)[i]?=some ((hd b).getD i 0):=jt;have hx0:(hd a).length<=i->(hd a).getD i 0=0:=nM;have hy0:(hd b).length<=i->(hd b).getD i 0=0:=nM;obtain⟨x,hxd⟩:∃x,x=(hd a).getD i 0:=⟨_,rfl⟩;obtain⟨y,hyd⟩:∃y,y=(hd b).getD i 0:=⟨_,rfl⟩;rw[<-hxd]at STEP hxl hx hx0;rw[<-hyd]at STEP hyl hy hy0;have hdig:=jA hdo (Nat.mod_lt (c+x+y) (by omega:0<65536));have hms:=jr o ((c+x+y)%65536);have hlen:(o++[(c+x+y)%65536]).length=i+1:=by simp[ho]
 have kx:(hd a).length<=M:=by omega
 have ky:(hd b).length<=M:=by omega
 have kM:M<=(hd a).length\/M<=(hd b).length:=by omega
 have kM2:M<=400000000:=by omega
 clear hM hxd hyd;by_cases hend:M<=i/\c=0
 ·obtain⟨h1,h2⟩:=hend;have e:Dg.vl 65536 o=a+b:=by
   subst h2;rw[List.take_of_length_le (by omega),List.take_of_length_le (by omega),eF,eF]at hv;omega
  have T:=pq (l:=o) (by omega) hdo e
  (repeat(first|refine gk fun K hK=>?_|refine zs2 ?_));refine CS ?_;(repeat(first|refine gk fun K hK=>?_|refine zs2 ?_))
  refine aB ?_
  (repeat(first|refine gk fun K hK=>?_|refine zs2 ?_))
  refine az (aE (k:=5) aR bz bw) ?_;refine im ?_
  (repeat(first|refine gk fun K hK=>?_|refine zs2 ?_))
  exact⟨_,Sh.refl, .one (.tmp 4) _ rfl (.tmp 4 rfl)⟩
 ·have hcases:((i<(hd a).length)\/(i<(hd b).length/\(hd a).length<=i))\/(c>0/\(hd a).length<=i/\(hd b).length<=i):=by omega
  have hxe:i<(hd a).length\/((hd a).length<=i/\x=0):=by
   by_cases h:i<(hd a).length
   ·exact .inl h
   ·exact .inr ⟨by omega,hx0 (by omega)⟩
  have hye:i<(hd b).length\/((hd b).length<=i/\y=0):=by
   by_cases h:i<(hd b).length
   ·exact .inl h
   ·exact .inr ⟨by omega,hy0 (by omega)⟩
  rcases hcases with(h1|⟨h1,h2⟩)|⟨h1,h2,h3⟩;all_goals
   rcases hxe with h4|⟨h4,h5⟩;all_goals
    rcases hye with h6|⟨h6,h7⟩;all_goals
     first
      |(exfalso;omega;done)
      | ((repeat (first | refine gk fun K hK =>?_ | refine zs2 ?_)); refine CS ?_; (repeat (first | refine gk fun K hK =>?_ | refine zs2 ?_))
         refine aA ?_
         (repeat(first|refine gk fun K hK=>?_|refine zs2 ?_));refine aU ?_;(repeat(first|refine gk fun K hK=>?_|refine zs2 ?_))
         (first|(refine aA ?_;(repeat(first|refine gk fun K hK=>?_|refine zs2 ?_));(refine gar ?_;refine zs4 ?_;refine zs4 ?_;refine zs4 ?_;(refine aL1 rfl rfl rfl (by(first|(apply gG;(exact rfl);(focus((apply ak;(conv=>lhs;whnf);(first|done|exact rfl))));(focus((apply ak;(conv=>lhs;whnf);(first|done|exact rfl))));(kernel_rfl);(kernel_rfl);(omega);(focus((first|(apply get_map;exact hx h4)|(apply get_map;assumption)|(apply get_own;assumption)))))|(apply et;(exact rfl);(focus((apply ak;(conv=>lhs;whnf);(first|done|exact rfl))));(focus((apply ak;(conv=>lhs;whnf);(first|done|exact rfl))));(focus((repeat(first|exact List.mem_cons_self|refine List.mem_cons_of_mem _ ?_))));(kernel_rfl);(kernel_rfl);(focus(first|omega|(simp;omega)));(focus(first|(apply dn;assumption)|exact rfl))))) ?_);(refine aL1 rfl rfl rfl (by(first|(apply qk;(exact rfl);(focus((apply ak;(conv=>lhs;whnf);(first|done|exact rfl))));(exact rfl);(focus((first|exact dT|exact dQ|exact dR|exact wd_pt|exact rfl)));(exact rfl);(kernel_rfl);(kernel_rfl))|(apply gI;(exact rfl);(focus((apply ak;(conv=>lhs;whnf);(first|done|exact rfl))));(focus((repeat(first|exact List.mem_cons_self|refine List.mem_cons_of_mem _ ?_))));(exact fU);(exact rfl);(exact rfl);(focus((first|exact dT|exact dQ|exact dR|exact wd_pt|exact rfl)));(exact rfl);(kernel_rfl);(kernel_rfl))|(apply iB;(exact rfl);(focus((apply ak;(conv=>lhs;whnf);(first|done|exact rfl))));(focus((repeat(first|exact List.mem_cons_self|refine List.mem_cons_of_mem _ ?_))));(exact rfl);(focus((first|exact fU|(apply lQ;assumption)|assumption|(apply get_map;exact hx h4)|exact rfl)));(exact rfl);(focus((first|exact dT|exact dQ|exact dR|exact wd_pt|exact rfl)));(exact rfl);(kernel_rfl);(kernel_rfl))|(apply d_load_row;(exact rfl);(focus((apply ak;(conv=>lhs;whnf);(first|done|exact rfl))));(focus((repeat(first|exact List.mem_cons_self|refine List.mem_cons_of_mem _ ?_))));(exact rfl);(focus(first|(apply dn;assumption)|exact rfl));(assumption);(kernel_rfl);(kernel_rfl)))) ?_);refine oe ?_;refine zs6 ?_;refine af ?_);(repeat(first|refine gk fun K hK=>?_|refine zs2 ?_)))|(refine aB ?_;(repeat(first|refine gk fun K hK=>?_|refine zs2 ?_))))
         (repeat(first|refine gk fun K hK=>?_|refine zs2 ?_));refine aU ?_;(repeat(first|refine gk fun K hK=>?_|refine zs2 ?_))
         (first|(refine aA ?_;(repeat(first|refine gk fun K hK=>?_|refine zs2 ?_));(refine gar ?_;refine zs4 ?_;refine zs4 ?_;refine zs4 ?_;refine zs64 ?_;refine zs65 ?_;refine oe ?_;refine zs6 ?_;refine af ?_);(repeat(first|refine gk fun K hK=>?_|refine zs2 ?_)))|(refine aB ?_;(repeat(first|refine gk fun K hK=>?_|refine zs2 ?_))))
         (refine az (au (sl':=[(0,dN (hd a)),(1,dN (hd b)),(5, .own 5),(6,zI ((c+x+y:Nat):Int)),(7,zI (i:Nat))]) (ow':=[(5,⟨3,1,o.map hN⟩)]) ay aD) ?_)
         (repeat(first|refine gk fun K hK=>?_|refine zs2 ?_));(refine gar ?_;refine zs4 ?_;refine zs4 ?_;refine qI ?_;refine my ?_;refine tF ?_;refine zs6 ?_;refine af ?_);(repeat(first|refine gk fun K hK=>?_|refine zs2 ?_));refine oZ ?_;(repeat(first|refine gk fun K hK=>?_|refine zs2 ?_));refine ba ?_;(repeat(first|refine gk fun K hK=>?_|refine zs2 ?_))
         simp only[nx,inB];exact⟨M+1-(i+1),_,by omega,(au (sl':=[(0,dN (hd a)),(1,dN (hd b)),(5, .own 5),(6,zI (((c+x+y)/65536:Nat):Int)),(7,zI ((i+1:Nat):Int))]) (ow':=[(5,⟨3,1,o.map hN++[hN ((c+x+y)%65536)]⟩)]) ay aD),i+1,o++[(c+x+y)%65536],(c+x+y)/65536,rfl,hlen,hdig,by omega,by omega,STEP,by rw[hms]⟩)
end DW
end
end Go.Proofs.YtcgjmdpcplhanaaGreat
