/- Lemmas for the law: DH DI DJ DL DM DO DU DZ1 DY DZ0 DZ M5 M25 M26 F2 F3 L5 L6 DN -/
import Derived.Test.YtepdigdijecgpaaGreatDel
import Derived.Test.YtepdigdijecgpaaGreatZv3
namespace Go.Proofs.YtepdigdijecgpaaGreat
section
abbrev uX:=@List.eraseIdx_eq_take_drop_succ
abbrev jq:=@List.length_eraseIdx_of_lt
abbrev uW:=@List.getElem?_eraseIdx
abbrev ka:=@Int.natAbs_mul
abbrev gF:=@List.length_range
abbrev nH:=@Nat.gcd_dvd_left
abbrev jo:=@Nat.le_of_dvd
abbrev lG:=@Nat.gcd_pos_of_pos_left
abbrev nG:=@Nat.not_lt_zero
abbrev qQ:=@List.mem_of_mem_eraseIdx
abbrev lF:=@List.map_take
abbrev qP:=@List.map_drop
theorem zs32{p q:Prop}(h:q)(f:Wq q->p:=by(intro hW;((first|refine aN1 rfl rfl rfl uQ ?_|refine aN1o rfl rfl rfl uQ ?_));exact hW.out)):p:=f ⟨h⟩
theorem uP{p:Prop}(h:p:=by(apply bH;(conv=>lhs;whnf);(first|done|exact rfl))):p:=h
theorem zb75{p:Prop}(h:p:=by simp only[];omega):p:=h
theorem zb26{p:Prop}(h:p:=by first|with_reducible rfl|exact rj aa|exact rj zb75|exact rj aY|(apply rj;omega)|(apply bB;(first|(apply aw;omega)|(apply au;omega)|(simp<;>omega)))):p:=h
theorem aS{p:Prop}(h:p:=by(repeat(first|exact EO|refine B7 uP zb26 ?_))):p:=h
theorem jy{p q:Prop}(h:q)(f:Wq q->p:=by(intro hW;((first|refine aN1 rfl rfl rfl lp ?_|refine aN1o rfl rfl rfl lp ?_));exact hW.out)):p:=f ⟨h⟩
theorem pO{p:Prop}(h:p:=by(repeat(first|exact Cb|(apply AU;(exact rfl))|apply Cc|apply EY))):p:=h
theorem jZ{p q:Prop}(h:q)(f:Wq q->p:=by(intro hW;(refine aL1 rfl rfl rfl (by(apply ns;(exact rfl);(exact ct))) ?_);exact hW.out)):p:=f ⟨h⟩
theorem zs112{p q:Prop}(h:q)(f:Wq q->p:=by(intro hW;(refine gar ?_;refine jZ ?_;refine aJ ?_);exact hW.out)):p:=f ⟨h⟩
theorem cX{p q:Prop}(h:q)(f:Wq q->p:=by(intro hW;(refine zs112 ?_;refine zs1 ?_);exact hW.out)):p:=f ⟨h⟩
theorem zs14{p q:Prop}(h:q)(f:Wq q->p:=by(intro hW;((apply It;(focus(first|(apply ao;(conv=>lhs;whnf);(first|done|exact rfl))|with_reducible exact ct|with_reducible exact iY|with_reducible exact mb|exact op_zero));(focus(first|with_reducible rfl|(apply au;omega)|assumption|(simp<;>omega)))));exact hW.out)):p:=f ⟨h⟩
theorem bP{p q:Prop}(h:q)(f:Wq q->p:=by(intro hW;(refine zs1 ?_;refine zs14 ?_;refine zs1 ?_);exact hW.out)):p:=f ⟨h⟩
theorem dF{p q:Prop}(h:q)(f:Wq q->p:=by(intro hW;(refine bP ?_;refine cX ?_);exact hW.out)):p:=f ⟨h⟩
theorem zs9{p q:Prop}(h:q)(f:Wq q->p:=by(intro hW;(refine aL1 rfl rfl rfl (by(apply ns;(exact rfl);(exact mb))) ?_);exact hW.out)):p:=f ⟨h⟩
theorem qI{p q:Prop}(h:q)(f:Wq q->p:=by(intro hW;(refine gar ?_;refine zs9 ?_;refine aJ ?_);exact hW.out)):p:=f ⟨h⟩
theorem mj{p q:Prop}(h:q)(f:Wq q->p:=by(intro hW;(refine zs1 ?_;refine qI ?_;refine zs1 ?_);exact hW.out)):p:=f ⟨h⟩
theorem mu{p q:Prop}(h:q)(f:Wq q->p:=by(intro hW;(refine cN ?_;refine zs4 ?_;refine aJ ?_);exact hW.out)):p:=f ⟨h⟩
theorem zb2{p:Prop}(h:p:=by(first|(apply Ih;(exact rfl);(focus((apply ao;(conv=>lhs;whnf);(first|done|exact rfl))));(kernel_rfl))|(apply d_len_ownm;(exact rfl);(focus((apply ao;(conv=>lhs;whnf);(first|done|exact rfl))));(focus((repeat(first|exact bp|refine bf _ ?_))));(kernel_rfl))|(apply d_len;(exact rfl);(focus((apply ao;(conv=>lhs;whnf);(first|done|exact rfl))));(kernel_rfl))|(apply d_len_own;(exact rfl);(focus((apply ao;(conv=>lhs;whnf);(first|done|exact rfl))));(focus((repeat(first|exact bp|refine bf _ ?_))));(kernel_rfl))|(apply d_len0;(exact rfl);(focus((apply ao;(conv=>lhs;whnf);(first|done|exact rfl))));(kernel_rfl)))):p:=h
theorem iu{p q:Prop}(h:q)(f:Wq q->p:=by(intro hW;(refine aL1 rfl rfl rfl zb2 ?_);exact hW.out)):p:=f ⟨h⟩
theorem zb21{p:Prop}(h:p:=by(first|(apply dB;(exact rfl);(focus((apply ao;(conv=>lhs;whnf);(first|done|exact rfl))));(exact ct);(exact rfl))|(apply d_eqb;(exact rfl);(focus((apply ao;(conv=>lhs;whnf);(first|done|exact rfl))));(exact ct);(kernel_rfl)))):p:=h
theorem yy{p q:Prop}(h:q)(f:Wq q->p:=by(intro hW;(refine aL1 rfl rfl rfl zb21 ?_);exact hW.out)):p:=f ⟨h⟩
theorem uh{p q:Prop}(h:q)(f:Wq q->p:=by(intro hW;(refine bD ?_;refine iu ?_;refine yy ?_;refine aJ ?_);exact hW.out)):p:=f ⟨h⟩
theorem zb0{p:Prop}(h:p:=by(first|(apply BG;(exact rfl);(focus((apply ao;(conv=>lhs;whnf);(first|done|exact rfl))));(exact rfl);(focus((first|exact kQ|exact kP|exact wd_nm|exact wd_pt|exact rfl)));(exact rfl);(kernel_rfl);(kernel_rfl))|(apply d_load_own;(exact rfl);(focus((apply ao;(conv=>lhs;whnf);(first|done|exact rfl))));(focus((repeat(first|exact bp|refine bf _ ?_))));(exact get_one);(exact rfl);(exact rfl);(focus((first|exact kQ|exact kP|exact wd_nm|exact wd_pt|exact rfl)));(exact rfl);(kernel_rfl);(kernel_rfl))|(apply d_load_ownO;(exact rfl);(focus((apply ao;(conv=>lhs;whnf);(first|done|exact rfl))));(focus((repeat(first|exact bp|refine bf _ ?_))));(exact rfl);(focus((first|exact get_one|(apply get_map1;assumption)|assumption|(apply vX;(focus assumption);(focus assumption))|exact rfl)));(exact rfl);(focus((first|exact kQ|exact kP|exact wd_nm|exact wd_pt|exact rfl)));(exact rfl);(kernel_rfl);(kernel_rfl))|(apply d_load_row;(exact rfl);(focus((apply ao;(conv=>lhs;whnf);(first|done|exact rfl))));(focus((repeat(first|exact bp|refine bf _ ?_))));(exact rfl);(focus(first|(apply offs_nat;assumption)|exact rfl));(assumption);(kernel_rfl);(kernel_rfl)))):p:=h
theorem yw{p q:Prop}(h:q)(f:Wq q->p:=by(intro hW;((first|refine fm rfl rfl rfl aA zb0 aA aA ?_|((try refine br ?_);refine aL1 rfl rfl rfl zb0 ?_)));exact hW.out)):p:=f ⟨h⟩
theorem zb4{p:Prop}(h:p:=by(first|(apply np;(exact rfl);(focus((apply ao;(conv=>lhs;whnf);(first|done|exact rfl))));(focus((apply ao;(conv=>lhs;whnf);(first|done|exact rfl))));(kernel_rfl);(kernel_rfl);(omega);(focus((first|(apply get_map;assumption)|(apply get_own;assumption)))))|(apply d_index_own;(exact rfl);(focus((apply ao;(conv=>lhs;whnf);(first|done|exact rfl))));(focus((apply ao;(conv=>lhs;whnf);(first|done|exact rfl))));(focus((repeat(first|exact bp|refine bf _ ?_))));(kernel_rfl);(kernel_rfl);(focus(first|omega|(simp;omega)));(focus(first|(apply offs_nat;assumption)|exact rfl))))):p:=h
theorem yF{p q:Prop}(h:q)(f:Wq q->p:=by(intro hW;(refine aL1 rfl rfl rfl zb4 ?_);exact hW.out)):p:=f ⟨h⟩
theorem zb19{p:Prop}(h:p:=by(apply zS;(exact rfl);(focus((apply ao;(conv=>lhs;whnf);(first|done|exact rfl))));(focus((apply ao;(conv=>lhs;whnf);(first|done|exact rfl))));(kernel_rfl);(kernel_rfl);(focus(first|exact lK _|exact rfl));(focus(first|omega|(simp;omega))))):p:=h
theorem zs26{p q:Prop}(h:q)(f:Wq q->p:=by(intro hW;(refine aL1 rfl rfl rfl zb19 ?_);exact hW.out)):p:=f ⟨h⟩
theorem uS{p:Prop}(h:p:=by(apply tj;(exact rfl);(focus((apply ao;(conv=>lhs;whnf);(first|done|exact rfl))));(focus((apply ao;(conv=>lhs;whnf);(first|done|exact rfl))));(focus((apply ao;(conv=>lhs;whnf);(first|done|exact rfl))));(exact rfl);(exact rfl);(exact rfl);(assumption);(exact rfl))):p:=h
theorem zs10{p q:Prop}(h:q)(f:Wq q->p:=by(intro hW;((apply aW_no;(focus(first|(apply ao;(conv=>lhs;whnf);(first|done|exact rfl))|with_reducible exact ct|with_reducible exact iY|with_reducible exact mb|exact op_zero));(focus(first|with_reducible rfl|(apply aw;omega)|assumption|(simp<;>omega)))));exact hW.out)):p:=f ⟨h⟩
theorem aQ{p q:Prop}(h:q)(f:Wq q->p:=by(intro hW;(refine zs1 ?_;refine zs10 ?_;refine zs1 ?_);exact hW.out)):p:=f ⟨h⟩
theorem zb18{p:Prop}(h:p:=by(apply oA;(exact rfl);(focus((apply ao;(conv=>lhs;whnf);(first|done|exact rfl))));(focus((apply ao;(conv=>lhs;whnf);(first|done|exact rfl))));(kernel_rfl);(kernel_rfl);(focus(first|exact lK _|exact rfl));(focus(first|omega|(simp;omega))))):p:=h
theorem zs31{p q:Prop}(h:q)(f:Wq q->p:=by(intro hW;((first|refine aN1 rfl rfl rfl zb18 ?_|refine aN1o rfl rfl rfl zb18 ?_));exact hW.out)):p:=f ⟨h⟩
theorem yV{p:Prop}(h:p:=by(first|(apply dB;(exact rfl);(focus((apply ao;(conv=>lhs;whnf);(first|done|exact rfl))));(focus((apply ao;(conv=>lhs;whnf);(first|done|exact rfl))));(exact rfl))|(apply d_neb;(exact rfl);(focus((apply ao;(conv=>lhs;whnf);(first|done|exact rfl))));(focus((apply ao;(conv=>lhs;whnf);(first|done|exact rfl))));(kernel_rfl)))):p:=h
theorem nD{p q:Prop}(h:q)(f:Wq q->p:=by(intro hW;(refine aL1 rfl rfl rfl yV ?_);exact hW.out)):p:=f ⟨h⟩
theorem Eb{p q:Prop}(h:q)(f:Wq q->p:=by(intro hW;(refine gar ?_;refine zs4 ?_;refine aJ ?_);exact hW.out)):p:=f ⟨h⟩
theorem eO{p q:Prop}(h:q)(f:Wq q->p:=by(intro hW;(refine zs1 ?_;refine Eb ?_;refine aQ ?_);exact hW.out)):p:=f ⟨h⟩
theorem ug{p q:Prop}(h:q)(f:Wq q->p:=by(intro hW;(refine gar ?_;refine jZ ?_;refine jZ ?_;refine aJ ?_);exact hW.out)):p:=f ⟨h⟩
theorem zs13{p q:Prop}(h:q)(f:Wq q->p:=by(intro hW;(refine aL1 rfl rfl rfl (by(apply BF;(exact rfl);(exact ct))) ?_);exact hW.out)):p:=f ⟨h⟩
theorem jF{p q:Prop}(h:q)(f:Wq q->p:=by(intro hW;(refine bD ?_;refine iu ?_;refine zs13 ?_;refine aJ ?_);exact hW.out)):p:=f ⟨h⟩
theorem uc{p q:Prop}(h:q)(f:Wq q->p:=by(intro hW;(refine zs1 ?_;refine Eb ?_;refine bP ?_);exact hW.out)):p:=f ⟨h⟩
theorem zb1{p:Prop}(h:p:=by(first|(apply BG;(exact rfl);(focus((apply ao;(conv=>lhs;whnf);(first|done|exact rfl))));(exact rfl);(focus((first|exact kQ|exact kP|exact wd_nm|exact wd_pt|exact rfl)));(exact rfl);(kernel_rfl);(kernel_rfl))|(apply d_load_own;(exact rfl);(focus((apply ao;(conv=>lhs;whnf);(first|done|exact rfl))));(focus((repeat(first|exact bp|refine bf _ ?_))));(exact get_one);(exact rfl);(exact rfl);(focus((first|exact kQ|exact kP|exact wd_nm|exact wd_pt|exact rfl)));(exact rfl);(kernel_rfl);(kernel_rfl))|(apply d_load_ownO;(exact rfl);(focus((apply ao;(conv=>lhs;whnf);(first|done|exact rfl))));(focus((repeat(first|exact bp|refine bf _ ?_))));(exact rfl);(focus((first|exact get_one|(apply get_map1;assumption)|assumption|exact rfl)));(exact rfl);(focus((first|exact kQ|exact kP|exact wd_nm|exact wd_pt|exact rfl)));(exact rfl);(kernel_rfl);(kernel_rfl))|(apply d_load_row;(exact rfl);(focus((apply ao;(conv=>lhs;whnf);(first|done|exact rfl))));(focus((repeat(first|exact bp|refine bf _ ?_))));(exact rfl);(focus(first|(apply offs_nat;assumption)|exact rfl));(assumption);(kernel_rfl);(kernel_rfl)))):p:=h
theorem ed{p q:Prop}(h:q)(f:Wq q->p:=by(intro hW;(refine aL1 rfl rfl rfl zb1 ?_);exact hW.out)):p:=f ⟨h⟩
theorem zs109{p q:Prop}(h:q)(f:Wq q->p:=by(intro hW;(refine bD ?_;refine yF ?_;refine ed ?_;refine zs8 ?_;refine cM ?_);exact hW.out)):p:=f ⟨h⟩
theorem gg{p q:Prop}(h:q)(f:Wq q->p:=by(intro hW;(refine uc ?_;refine zs109 ?_;refine zs1 ?_);exact hW.out)):p:=f ⟨h⟩
theorem zb22{p:Prop}(h:p:=by(first|(apply Et;(exact rfl);(focus((apply ao;(conv=>lhs;whnf);(first|done|exact rfl))));(exact ct);(omega))|(apply dB;(exact rfl);(focus((apply ao;(conv=>lhs;whnf);(first|done|exact rfl))));(exact ct);(exact rfl)))):p:=h
theorem yA{p q:Prop}(h:q)(f:Wq q->p:=by(intro hW;(refine aL1 rfl rfl rfl zb22 ?_);exact hW.out)):p:=f ⟨h⟩
theorem kH{p q:Prop}(h:q)(f:Wq q->p:=by(intro hW;(refine bD ?_;refine yA ?_;refine cM ?_);exact hW.out)):p:=f ⟨h⟩
theorem mz{p:Prop}(h:p:=by(repeat(first|exact gY|(apply fU;(exact rfl))|(apply gZ;(exact rfl))))):p:=h
theorem zb46{p:Prop}(h:p:=by(repeat(first|exact EK|apply EL|(apply upd_miss;(exact rfl))))):p:=h
theorem uR{p:Prop}(h:p:=by first|exact rfl|(apply vT;intro _;exact rfl)|(apply nw_take;apply vT;intro _;exact rfl)|(apply Ff;apply vT;intro _;exact rfl)|(simp[D.nw];done)):p:=h
theorem fe{p:Prop}(h:p:=by(apply ao;(conv=>lhs;whnf);(first|done|exact rfl))):p:=h
theorem iW{p:Prop}(h:p:=by(repeat(first|exact bp|refine bf _ ?_))):p:=h
theorem zs11{p q:Prop}(h:q)(f:Wq q->p:=by(intro hW;((refine wX rfl rfl rfl rfl fe fe iW aA uR ak ak (by(simp only[cL,gK];omega)) mz zb46 ?_));exact hW.out)):p:=f ⟨h⟩
theorem pN{p:Prop}(h:p:=by(repeat(first|exact drop_nil|apply CH|(apply Bx;(exact rfl))))):p:=h
theorem sd{p q:Prop}(h:q)(f:Wq q->p:=by(intro hW;((first|refine fm rfl rfl rfl aA uQ aA aA ?_|((try refine br ?_);refine aL1 rfl rfl rfl uQ ?_)));exact hW.out)):p:=f ⟨h⟩
theorem zs110{p q:Prop}(h:q)(f:Wq q->p:=by(intro hW;(refine gar ?_;refine yA ?_;refine zs3 ?_;refine aJ ?_);exact hW.out)):p:=f ⟨h⟩
theorem dp{p q:Prop}(h:q)(f:Wq q->p:=by(intro hW;(refine zs110 ?_;refine zs1 ?_);exact hW.out)):p:=f ⟨h⟩
theorem zb23{p:Prop}(h:p:=by(apply oA;(exact rfl);(focus((apply ao;(conv=>lhs;whnf);(first|done|exact rfl))));(exact ct);(kernel_rfl);(kernel_rfl);(focus(first|exact lK _|exact rfl));(focus(first|omega|(simp;omega))))):p:=h
theorem zb3{p:Prop}(h:p:=by(first|(apply np;(exact rfl);(focus((apply ao;(conv=>lhs;whnf);(first|done|exact rfl))));(focus((apply ao;(conv=>lhs;whnf);(first|done|exact rfl))));(kernel_rfl);(kernel_rfl);(omega);(focus((first|(apply vX;(focus assumption);(focus assumption))|(apply get_map;assumption)|(apply get_own;assumption)))))|(apply d_index_own;(exact rfl);(focus((apply ao;(conv=>lhs;whnf);(first|done|exact rfl))));(focus((apply ao;(conv=>lhs;whnf);(first|done|exact rfl))));(focus((repeat(first|exact bp|refine bf _ ?_))));(kernel_rfl);(kernel_rfl);(focus(first|omega|(simp;omega)));(focus(first|(apply offs_nat;assumption)|exact rfl))))):p:=h
theorem zs35{p q:Prop}(h:q)(f:Wq q->p:=by(intro hW;((first|refine fm rfl rfl rfl aA zb3 aA aA ?_|((try refine br ?_);refine aL1 rfl rfl rfl zb3 ?_)));exact hW.out)):p:=f ⟨h⟩
theorem tZ{p q:Prop}(h:q)(f:Wq q->p:=by(intro hW;(refine iu ?_;refine zs13 ?_;refine aJ ?_;refine zs1 ?_);exact hW.out)):p:=f ⟨h⟩
theorem zb12{p:Prop}(h:p:=by(first|(apply Es;(exact rfl);(focus((apply ao;(conv=>lhs;whnf);(first|done|exact rfl))));(focus((apply ao;(conv=>lhs;whnf);(first|done|exact rfl))));(omega))|(apply dB;(exact rfl);(focus((apply ao;(conv=>lhs;whnf);(first|done|exact rfl))));(focus((apply ao;(conv=>lhs;whnf);(first|done|exact rfl))));(exact rfl)))):p:=h
theorem se{p q:Prop}(h:q)(f:Wq q->p:=by(intro hW;((first|refine fm rfl rfl rfl aA zb12 aA aA ?_|((try refine br ?_);refine aL1 rfl rfl rfl zb12 ?_)));exact hW.out)):p:=f ⟨h⟩
theorem zs29{p q:Prop}(h:q)(f:Wq q->p:=by(intro hW;((first|refine aN1 rfl rfl rfl zb19 ?_|refine aN1o rfl rfl rfl zb19 ?_));exact hW.out)):p:=f ⟨h⟩
theorem zs27{p q:Prop}(h:q)(f:Wq q->p:=by(intro hW;((refine yj (k:=3) (wd:=1) (T:=Tryz.prog.elem 45) rfl rfl rfl rfl ak ak aA aA mz ?_));exact hW.out)):p:=f ⟨h⟩
theorem yx{p q:Prop}(h:q)(f:Wq q->p:=by(intro hW;(refine aL1 rfl rfl rfl zb12 ?_);exact hW.out)):p:=f ⟨h⟩
theorem zb13{p:Prop}(h:p:=by(first|(apply Et;(exact rfl);(focus((apply ao;(conv=>lhs;whnf);(first|done|exact rfl))));(focus((apply ao;(conv=>lhs;whnf);(first|done|exact rfl))));(omega))|(apply dB;(exact rfl);(focus((apply ao;(conv=>lhs;whnf);(first|done|exact rfl))));(focus((apply ao;(conv=>lhs;whnf);(first|done|exact rfl))));(exact rfl)))):p:=h
theorem zs37{p q:Prop}(h:q)(f:Wq q->p:=by(intro hW;((first|refine fm rfl rfl rfl aA zb13 aA aA ?_|((try refine br ?_);refine aL1 rfl rfl rfl zb13 ?_)));exact hW.out)):p:=f ⟨h⟩
theorem zb7{p:Prop}(h:p:=by(first|(apply np;(exact rfl);(focus((apply ao;(conv=>lhs;whnf);(first|done|exact rfl))));(exact ct);(kernel_rfl);(kernel_rfl);(omega);(focus((first|(apply vX;(focus assumption);(focus assumption))|(apply get_map;assumption)|(apply get_own;assumption)))))|(apply d_index_own;(exact rfl);(focus((apply ao;(conv=>lhs;whnf);(first|done|exact rfl))));(exact ct);(focus((repeat(first|exact bp|refine bf _ ?_))));(kernel_rfl);(kernel_rfl);(focus(first|omega|(simp;omega)));(focus(first|(apply offs_nat;assumption)|exact rfl))))):p:=h
theorem yz{p q:Prop}(h:q)(f:Wq q->p:=by(intro hW;((refine wX rfl rfl rfl rfl fe fe iW aA uR ak ak (by(simp only[cL,gj,gK];omega)) mz zb46 ?_));exact hW.out)):p:=f ⟨h⟩
theorem zs111{p q:Prop}(h:q)(f:Wq q->p:=by(intro hW;(refine bD ?_;refine cM ?_);exact hW.out)):p:=f ⟨h⟩
theorem dD{p q:Prop}(h:q)(f:Wq q->p:=by(intro hW;(refine zs111 ?_;refine zs1 ?_);exact hW.out)):p:=f ⟨h⟩
theorem dY{p q:Prop}(h:q)(f:Wq q->p:=by(intro hW;((first|refine fm rfl rfl rfl aA lp aA aA ?_|((try refine br ?_);refine aL1 rfl rfl rfl lp ?_)));exact hW.out)):p:=f ⟨h⟩
theorem uK{p q:Prop}(h:q)(f:Wq q->p:=by(intro hW;(refine aL1 rfl rfl rfl (by(apply d_lit;(exact rfl);(focus((apply ao;(conv=>lhs;whnf);(first|done|exact rfl))));(exact rfl);(focus((first|exact kQ|exact kP|exact wd_nm|exact wd_pt|exact rfl)));(kernel_rfl);(kernel_rfl);(exact rfl);(exact rfl))) ?_);exact hW.out)):p:=f ⟨h⟩
theorem aR{p:Prop}(h:p:=by(repeat(first|exact B5|(apply AG;(focus(repeat(first|exact bp|refine bf _ ?_))))))):p:=h
theorem zb28{p:Prop}(h:p:=by(first|(apply Er;(exact rfl);(focus((apply ao;(conv=>lhs;whnf);(first|done|exact rfl))));(omega))|(apply Ic;(exact rfl);(focus((apply ao;(conv=>lhs;whnf);(first|done|exact rfl))))))):p:=h
theorem zs40{p q:Prop}(h:q)(f:Wq q->p:=by(intro hW;(refine aL1 rfl rfl rfl zb28 ?_);exact hW.out)):p:=f ⟨h⟩
theorem yM{p q:Prop}(h:q)(f:Wq q->p:=by(intro hW;(refine bD ?_;refine zs40 ?_;refine cM ?_);exact hW.out)):p:=f ⟨h⟩
theorem oL{p q:Prop}(h:q)(f:Wq q->p:=by(intro hW;(refine cN ?_;refine iu ?_;refine zs4 ?_;refine aJ ?_);exact hW.out)):p:=f ⟨h⟩
theorem zb39{p:Prop}(h:p:=by(repeat(first|exact Gb|(apply Gc;(exact rfl))|(apply cut_miss;(exact rfl))))):p:=h
theorem zs25{p q:Prop}(h:q)(f:Wq q->p:=by(intro hW;(refine aL1 rfl rfl rfl zb13 ?_);exact hW.out)):p:=f ⟨h⟩
theorem zs30{p q:Prop}(h:q)(f:Wq q->p:=by(intro hW;((first|refine aN1 rfl rfl rfl zb22 ?_|refine aN1o rfl rfl rfl zb22 ?_));exact hW.out)):p:=f ⟨h⟩
theorem sb{p q:Prop}(h:q)(f:Wq q->p:=by(intro hW;(refine aL1 rfl rfl rfl uS ?_);exact hW.out)):p:=f ⟨h⟩
theorem cA{p q:Prop}(h:q)(f:Wq q->p:=by(intro hW;(refine cM ?_;refine zs1 ?_);exact hW.out)):p:=f ⟨h⟩
theorem zb51{p:Prop}(h:p:=by(simp only[cL,ba,eu];omega)):p:=h
theorem pK{p q:Prop}(h:q)(f:Wq q->p:=by(intro hW;((try refine br ?_);refine aJ ?_);exact hW.out)):p:=f ⟨h⟩
theorem yT{p:Prop}(h:p:=by(apply F0;(exact rfl);(focus((apply ao;(conv=>lhs;whnf);(first|done|exact rfl))));(exact rfl);(assumption);(exact rfl))):p:=h
theorem dZ{p q:Prop}(h:q)(f:Wq q->p:=by(intro hW;(refine aL1 rfl rfl rfl yT ?_);exact hW.out)):p:=f ⟨h⟩
theorem dC{p q:Prop}(h:q)(f:Wq q->p:=by(intro hW;(refine zs1 ?_;refine cX ?_);exact hW.out)):p:=f ⟨h⟩
end
section
open Go.RowKit
namespace DW
theorem IZ.gr{Y:Nat->Prop}{w w':World}{x:IV}{z:Int}(h:IZ w x z)(k:Gr Y w w')(hb:∀b,Y b->NW w b):IZ w' x z:=by
 obtain⟨l,h1,h2,h3⟩:=h;refine⟨l,⟨h1.n,h1.cap,?_,h1.nf⟩,h2,h3⟩;rcases h1.ws with h|⟨b,e,hg,hc⟩
 ·exact .inl h
 ·by_cases hl:l=[]
  ·exact .inl hl
  have hne:¬Y b:=fun e2=>hb b e2 _ (hc 0 _ (bn (fG.2 hl)));exact .inr ⟨b,e,aV hg k.size,fun i x hk=>(World.cell?_of_block (a:=⟨b,i,none⟩) (k.block b hg hne)).trans (hc i x hk)⟩
theorem Gr.agr{X Y:Nat->Prop}{w w':World}(k:Gr Y w w')(hb:∀b,Y b->NW w b)(hX:∀b,Y b->X b):Agr X w w':=
 ⟨k.size,fun b h1 h2=>k.block b h1 fun h=>h2 (hX b h),fun _ _ h=>IZ.gr h k hb⟩
theorem Gr.trans{Y Z:Nat->Prop}{w w' w2:World}(h:Gr Y w w')(k:Gr Z w' w2)(hz:∀b,Z b->w.heap.size<=b\/Y b):Gr Y w w2:=
 ⟨k.os.trans h.os,k.tape.trans h.tape,k.output.trans h.output,aU h.size k.size,fun b hb hy=>(k.block b (aV hb h.size) fun e=>by
  rcases hz b e with h1|h1
  ·omega
  ·exact hy h1).trans (h.block b hb hy)⟩
def blk(f:Nat->Value)(os:List (Nat×Ow))(b:Nat):Prop:=∃p∈os,(f p.1).ownBlock=some b
def XB(X:Nat->Prop)(f:Nat->Value)(os:List (Nat×Ow))(b:Nat):Prop:=X b\/blk f os b
structure OS(X:Nat->Prop)(f:Nat->Value)(w:World)(os:List (Nat×Ow)):Prop where
 ow:∀p∈os,OW (XB X f os) f w 0 p
 nw:∀b,blk f os b->NW w b
 dj:∀p∈os,∀q∈os,p.1≠q.1->∀b,(f p.1).ownBlock=some b->(f q.1).ownBlock≠some b
 un:∀p∈os,∀q∈os,p.1=q.1->p=q
 xd:∀b,X b->¬blk f os b
def SRs(X:Nat->Prop)(f:Nat->Value)(w:World):List D->List Value->Prop
 |[],vs=>vs=[]
 |d::l,vs=>∃u rest,vs=u::rest/\SR X f w d u/\SRs X f w l rest
theorem SRs.at{X:Nat->Prop}{f:Nat->Value}{w:World}:∀{l:List D} {i:Nat} {d:D} {vs:List Value},SRs X f w l vs->l[i]?=some d->∃u,vs[i]?=some u/\SR X f w d u
 |[],_,_,_,_,h=>by simp at h
 |_::_,0,_,_,⟨u,rest,h1,h2,_⟩,e=>by simp at e;subst e;exact⟨u,by rw[h1];rfl,h2⟩
 |_::_,i+1,_,_,⟨u,rest,h1,_,h3⟩,e=>by
  obtain⟨u',k1,k2⟩:=SRs.at h3 pL;exact⟨u',by rw[h1];simpa using k1,k2⟩
theorem SRs.len{X:Nat->Prop}{f:Nat->Value}{w:World}:∀{l:List D} {vs:List Value},SRs X f w l vs->vs.length=l.length
 |[],_,h=>by rw[show _=[]from h];rfl
 |_::_,_,⟨_,_,h1,_,h3⟩=>by rw[h1];simp[SRs.len h3]
def qE(P:Program)(g:FuncId)(ds:List D)(os:List (Nat×Ow))(r:D)(os':List (Nat×Ow)):Prop:=
 ∀(X:Nat->Prop) (f:Nat->Value) (w:World) (vs:Array Value),XW X w->OS X f w os->SRs (XB X f os) f w ds vs.toList->
  Calls P g vs w (fun e w'=>∃u f',e= .returned u/\Gr (blk f os) w w'/\OS X f' w' os'/\(∀b,blk f' os' b->blk f os b\/w.heap.size<=b)/\(∀p∈os,f' p.1=f p.1)/\SR (XB X f' os') f' w' r u)
abbrev FnG(P:Program)(g:FuncId)(ds:List D)(os:List (Nat×Ow))(r:D)(os':List (Nat×Ow)):Prop:=Go.Proofs.Enters P g/\qE P g ds os r os'
section
variable {P : Program} {X0 : Nat->Prop} {n : Nat} {Q : Exit->S->Prop} {s : S} {sl : List (Nat × D)} {ow : List (Nat × Ow)} {o : Oper} {ops : Array Oper} {l : List Oper} {K : S->Prop} {t : Nat} {d : D}
theorem vQ{w w':World}{base:Nat}{e:TypeId}{size:Nat}{v:Value}{m:Nat}{xs:List Value}(h:w.ownsRow base e size v m xs){g:Nat}(hv:v.ownBlock=some g)(hb:w'.heap[g]?=w.heap[g]?):w'.ownsRow base e size v m xs:=by
 refine⟨h.1,?_⟩;rcases h.2 with hn|⟨g',cap,cur,rfl,hb',hgg,rest⟩
 ·exact .inl hn
 ·simp only[Value.ownBlock,af]at hv;subst hv;exact .inr ⟨g',cap,cur,rfl,hb',hb.trans hgg,rest⟩
theorem vR{w w':World}{base:Nat}{e:TypeId}{size:Nat}{v:Value}{m:Nat}{xs:List Value}(h:w.ownsRow base e size v m xs)(hv:v.ownBlock=none):w'.ownsRow base e size v m xs:=by
 refine⟨h.1,?_⟩;rcases h.2 with hn|⟨g',cap,cur,rfl,_⟩
 ·exact .inl hn
 ·cases hv
inductive wY(P:Program)(fn:Func)(s:S):D->Prop
 |res (d:D) (h:Res P fn s d) (hd:d.seen=true):wY P fn s d
 |own (t k:Nat) (h:fn.results= #[.tmp t]) (h1:s.gt t= .own k):wY P fn s (.own k)
def fing(P:Program)(X0:Nat->Prop)(n:Nat)(fn:Func)(r:D)(os':List (Nat×Ow)):Exit->S->Prop
 | .normal,s=>∃s',Sh X0 n s s'/\wY P fn s' r/\s'.ow=os'
 | .ret,s=>∃s',Sh X0 n s s'/\wY P fn s' r/\s'.ow=os'
 |_,_=>False
theorem xN{g:FuncId}{fn:Func}{c:Code}{ds:List D}{os os':List (Nat×Ow)}{r:D}(hf:P.funcs[g]?=some fn)(hb:fn.body=some c)(hn:Nat.ble ds.length fn.ntmps=true)(hpin:∀p∈os,pin p.1=true)
  (h:∀X0,aW P X0 fn.ntmps c (fing P X0 fn.ntmps fn r os') ⟨az 0 ds,os⟩):qE P g ds os r os':=fun X f w vs hX hO hv=>by
 have hl:=hv.len;simp only[bL]at hl;have hn':ds.length<=fn.ntmps:=by simpa using hn
 have hd:Hd X fn.ntmps ⟨w,blk f os,f⟩ ⟨az 0 ds,os⟩ f {tmps:=vs++Array.replicate (fn.ntmps-vs.size) undef,defers:=[]} w:=by
  refine⟨by simp;omega,rfl,Gr.refl _ _,hX,hO.xd,fun _ _=>rfl,fun p hp b hb=>.inr ⟨p,hp,hb⟩,fun t=>?_,hO.ow,hO.nw,hO.dj,hO.un⟩;show SR _ _ _ (look (az 0 ds) t) _;rw[oo,aB (aI _),gM]
  cases hd:ds[t]? with
  |none=>exact SR.any
  |some d=>
   obtain⟨u,k1,k2⟩:=SRs.at hv hd;have k1':vs[t]?=some u:=by simpa using k1
   have hlt:=(gC.1 k1').1;have e:(vs++Array.replicate (fn.ntmps-vs.size) undef).getD t undef=u:=by
    rw[bZ,mE hlt,k1'];rfl
   show SR _ _ _ d (Array.getD _ t undef);rw[e];exact k2
 have key:∀s' f' a w',Hd X fn.ntmps ⟨w,blk f os,f⟩ s' f' a w'->(∃s'',Sh X fn.ntmps s' s''/\wY P fn s'' r/\s''.ow=os')->a.defers=[]/\∃v,(results fn a.tmps).run P w'= .ok v w'/\(∃u f',Ending.returned v= .returned u/\Gr (blk f os) w w'/\OS X f' w' os'/\(∀b,blk f' os' b->blk f os b\/w.heap.size<=b)/\(∀p∈os,f' p.1=f p.1)/\SR (XB X f' os') f' w' r u):=fun s' f' a w' h1 ⟨s'',h2,h3,h4⟩=>by
  obtain⟨f'',h5⟩:=h2 _ f' a w' h1;subst h4;refine⟨h5.df,?_⟩;have hos:OS X f'' w' s''.ow:=⟨h5.ow,fun b hb=>h5.nw b hb,h5.dj,h5.un,fun b hb ⟨p,hp,e⟩=>by
   rcases h5.lo p hp b e with h6|h6
   ·exact absurd (hX b hb).1 (by simp only at h6;omega)
   ·exact hO.xd b hb h6⟩
  have hbk:∀b,blk f'' s''.ow b->blk f os b\/w.heap.size<=b:=fun b ⟨p,hp,e⟩=>(h5.lo p hp b e).symm;have hkp:∀p∈os,f'' p.1=f p.1:=fun p hp=>h5.fx p.1 (hpin p hp)
  cases h3 with
  |res d h6 h7=>
   obtain⟨v,k1,k2⟩:=xz h5 h6;refine⟨v,k1,v,f'',rfl,h5.bl,hos,hbk,hkp,?_⟩;have k3:AR (XB X f'' s''.ow) w' r v:=k2;cases r<;>first|exact k3|simp[D.seen]at h7
  |own t k h6 h7=>
   have h8:=h5.sl t;rw[h7]at h8;refine⟨f'' k,?_,f'' k,f'',rfl,h5.bl,hos,hbk,hkp,rfl⟩;unfold results;rw[h6];simp only[SR]at h8;rw[bZ]at h8;simp[h8]
 refine calls_of_wp hf hb (Code.wp_mono (fun e a w' ⟨s',f',h1,h2⟩=>?_) (h X _ f _ w hd));cases e<;>simp only[fing]at h2<;>simp only[bodyPost]
 ·exact key s' f' a w' h1 h2
 ·exact key s' f' a w' h1 h2
theorem ER.re{X:Nat->Prop}{f f':Nat->Value}{w:World}{d:D}{u:Value}(h:ER X f w d u)(hf:∀j,gD j=true->d= .own j->f' j=f j):ER X f' w d u:=by
 cases d<;>first|exact h|exact⟨h.1,by rw[hf _ h.1 rfl];exact h.2.1,h.2.2⟩
theorem ElH.re{X:Nat->Prop}{f f':Nat->Value}{w:World}:∀{l:List D} {xs:List Value},ElH X f w l xs->(∀j,gD j=true->.own j∈l->f' j=f j)->ElH X f' w l xs
 |[],_,h,_=>h
 |d::_,_,⟨u,rest,h1,h2,h3,h4,h5,h6,h7⟩,hf=>⟨u,rest,h1,h2,h3,h4.re fun j hr e=>hf j hr (by rw[<-e];exact bp),h5,h6,h7.re fun j hr hj=>hf j hr (bf _ hj)⟩
theorem EE.re{X:Nat->Prop}{f f':Nat->Value}{w:World}{k wd:Nat}{l:List D}{xs:List Value}(h:EE X f w k wd l xs)(hf:hdr k=true->∀j,gD j=true->.own j∈l->f' j=f j):EE X f' w k wd l xs:=by
 unfold EE at h⊢
 cases hh:hdr k with
 |false=>rw[hh]at h;exact h
 |true=>rw[hh]at h;exact⟨h.1,h.2.re (hf hh)⟩
def inK(os:List (Nat×Ow))(k:Nat):Bool:=os.any fun p=>Nat.beq p.1 k
theorem ov{os:List (Nat×Ow)}{k:Nat}:inK os k=true↔∃p∈os,p.1=k:=by
 unfold inK;rw[gL];constructor
 ·rintro⟨p,hp,h⟩;exact⟨p,hp,cg h⟩
 ·rintro⟨p,hp,h⟩;exact⟨p,hp,by rw[h,de]⟩
theorem Hd.call{w0:Bs}{f f':Nat->Value}{a:Act}{w w':World}{os os' ow1:List (Nat×Ow)}{r:D}{u:Value}(h:Hd X0 n w0 ⟨sl,ow⟩ f a w)
  (hos:∀p∈os,p∈ow) (h1:∀p∈ow1,p∈ow/\∀q∈os,q.1≠p.1)
  (hnew:∀p∈os',(∃q∈os,q.1=p.1)\/(pin p.1=false/\(∀t,(look sl t).is p.1=false)/\∀q∈ow1,q.1≠p.1/\(hdr q.1=true->gD p.1=true-> .own p.1∉q.2.l)))
  (hm':∀p∈os',hdr p.1=true->∀j, .own j∈p.2.l->∃q∈os',q.1=j) (hr:∀k,r.is k=true->∃q∈os',q.1=k) (ht:t<n)
  (hg:Gr (blk f os) w w') (hO:OS (fun b=>XO X0 ⟨sl,ow⟩ f b/\¬blk f os b) f' w' os') (hb:∀b,blk f' os' b->blk f os b\/w.heap.size<=b) (hk:∀p∈os,f' p.1=f p.1) (hu:SR (XB (fun b=>XO X0 ⟨sl,ow⟩ f b/\¬blk f os b) f' os') f' w' r u):
  Hd X0 n w0 ⟨(t,r)::sl,os'++ow1⟩ (fun k=>if inK os' k then f' k else f k) (a.put (some t) u) w':=by
 have e1:∀p∈os',(if inK os' p.1 then f' p.1 else f p.1)=f' p.1:=fun p hp=>aB (ov.2 ⟨p,hp,rfl⟩);have e2:∀p∈ow1,(if inK os' p.1 then f' p.1 else f p.1)=f p.1:=fun p hp=>aj fun hh=>by
  obtain⟨q,hq,e⟩:=ov.1 hh;rcases hnew q hq with⟨q2,h2,e'⟩|h2
  ·exact(h1 p hp).2 q2 h2 (e'.trans e)
  ·exact(h2.2.2 p hp).1 e.symm
 have e3:∀k,(∃q∈os,q.1=k)\/inK os' k=false->(if inK os' k then f' k else f k)=f k:=fun k hh=>by
  rcases hh with⟨q,hq,rfl⟩|hh
  ·split
   ·exact hk q hq
   ·rfl
  ·rw[aj (by rw[hh];simp)]
 have hlt:∀p∈ow,∀b,(f p.1).ownBlock=some b->b<w.heap.size:=fun p hp b e=>((h.ow p hp).lt e).2;have hbo:∀b,blk f os b->blk f ow b:=fun b ⟨p,hp,e⟩=>⟨p,hos p hp,e⟩;have hX0:∀b,X0 b->¬blk f ow b:=fun b hb0 ⟨p,hp,e⟩=>by
  rcases h.lo p hp b e with h2|h2
  ·exact absurd (h.x0 b hb0).1 aa
  ·exact h.xy b hb0 h2
 have hd1:∀b,blk f ow1 b->¬blk f os b:=fun b ⟨p,hp,e⟩ ⟨q,hq,e'⟩=>h.dj p (h1 p hp).1 q (hos q hq) (fun e2=>(h1 p hp).2 q hq e2.symm) b e e';have hag:Agr (XO X0 ⟨sl,ow⟩ f) w w':=hg.agr (fun b hb=>h.nw b (hbo b hb)) (fun b hb=> .inr (hbo b hb));have hX1:∀b,XO X0 ⟨(t,r)::sl,os'++ow1⟩ (fun k=>if inK os' k then f' k else f k) b->X0 b\/blk f' os' b\/blk f ow1 b:=fun b hb=>by
  rcases hb with hb|⟨p,hp,e⟩
  ·exact .inl hb
  ·rcases dG.1 hp with hp|hp
   ·simp only[e1 p hp]at e;exact .inr (.inl ⟨p,hp,e⟩)
   ·simp only[e2 p hp]at e;exact .inr (.inr ⟨p,hp,e⟩)
 have hXw:∀b,b<w.heap.size->XO X0 ⟨(t,r)::sl,os'++ow1⟩ (fun k=>if inK os' k then f' k else f k) b->XO X0 ⟨sl,ow⟩ f b:=fun b hbs hx=>by
  rcases hX1 b hx with h2|h2|⟨p,hp,e⟩
  ·exact .inl h2
  ·rcases hb b h2 with h3|h3
   ·exact .inr (hbo b h3)
   ·omega
  ·exact .inr ⟨p,(h1 p hp).1,e⟩
 have hXO:∀b,XO X0 ⟨(t,r)::sl,os'++ow1⟩ (fun k=>if inK os' k then f' k else f k) b->XB (fun b=>XO X0 ⟨sl,ow⟩ f b/\¬blk f os b) f' os' b:=fun b hx=>by
  rcases hX1 b hx with h2|h2|h2
  ·exact .inl ⟨.inl h2,fun hh=>hX0 b h2 (hbo b hh)⟩
  ·exact .inr h2
  ·obtain⟨p,hp,e⟩:=h2;exact .inl ⟨.inr ⟨p,(h1 p hp).1,e⟩,hd1 b ⟨p,hp,e⟩⟩
 refine⟨by simp[Act.put,h.sz],h.df,h.bl.trans hg fun b ⟨p,hp,e⟩=>h.lo p (hos p hp) b e,h.x0,h.xy,fun j hj=>?_,fun p hp b e=>?_,fun v=>?_,fun p hp=>?_,fun b ⟨p,hp,e⟩=>?_,fun p hp q hq hne b e e'=>?_,fun p hp q hq e=>?_⟩
 ·rw[e3 j ?_]
  ·exact h.fx j hj
  ·cases hi:inK os' j with
   |false=>exact .inr rfl
   |true=>
    obtain⟨q,hq,rfl⟩:=ov.1 hi;rcases hnew q hq with h2|h2
    ·exact .inl h2
    ·rw[h2.1]at hj;cases hj
 ·rcases dG.1 hp with hp|hp
  ·simp only[e1 p hp]at e;rcases hb b ⟨p,hp,e⟩with⟨q,hq,e'⟩|h3
   ·exact h.lo q (hos q hq) b e'
   ·exact .inl (by have:=h.bl.size;omega)
  ·simp only[e2 p hp]at e;exact h.lo p (h1 p hp).1 b e
 ·rw[jc (by rw[h.sz];exact ht)];show SR _ _ _ (look ((t,r)::sl) v) _;simp only[look];split
  ·cases hrd:r with
   |own k=>
    rw[hrd]at hu;obtain⟨q,hq,rfl⟩:=hr k (by rw[hrd];simp[D.is,de]);simp only[SR,e1 q hq];exact hu
   |opt k off=>
    rw[hrd]at hu;obtain⟨q,hq,rfl⟩:=hr k (by rw[hrd];simp[D.is,de]);simp only[SR,e1 q hq];exact hu
   |_=>rw[hrd]at hu;exact AR.free hu (fun b _ hb=>hXO b hb)
  ·have h2:SR (XO X0 ⟨sl,ow⟩ f) f w (look sl v) (a.tmps.getD v undef):=h.sl v;have h3:∀k,(look sl v).is k=true->(if inK os' k then f' k else f k)=f k:=fun k hk2=>e3 k (by
    cases hi:inK os' k with
    |false=>exact .inr rfl
    |true=>
     obtain⟨q,hq,rfl⟩:=ov.1 hi;rcases hnew q hq with h4|h4
     ·exact .inl h4
     ·rw[h4.2.1 v]at hk2;cases hk2)
   cases hd:look sl v with
   |own k=>
    rw[hd]at h2 h3;simp only[SR]at h2⊢;rw[h3 k (by simp[D.is,de])];exact h2
   |opt k off=>
    rw[hd]at h2 h3;simp only[SR]at h2⊢;rw[h3 k (by simp[D.is,de])];exact h2
   |_=>rw[hd]at h2;exact AR.agr hag hXw _ _ h2
 ·rcases dG.1 hp with hp|hp
  ·obtain⟨k0,zs,k1,k2⟩:=hO.ow p hp;refine⟨k0,zs,by simp only[e1 p hp];exact k1,?_⟩;exact(EE.agr (Agr.refl _ w') (fun b _ hb=>hXO b hb) (fun _ _=>rfl) k2).re fun hh j _ hj=>by
    obtain⟨q,hq,rfl⟩:=hm' p hp hh j hj;exact e1 q hq
  ·obtain⟨k0,zs,k1,k2⟩:=h.ow p (h1 p hp).1;refine⟨k0,zs,?_,?_⟩
   ·simp only[e2 p hp]
    cases hv:(f p.1).ownBlock with
    |none=>exact vR k1 hv
    |some g=>exact vQ k1 hv (hg.block g (hlt p (h1 p hp).1 g hv) (hd1 g ⟨p,hp,hv⟩))
   ·refine(EE.agr hag hXw (fun _ _=>rfl) k2).re fun hh j hrw hj=>e3 j ?_
    cases hi:inK os' j with
    |false=>exact .inr rfl
    |true=>
     obtain⟨q,hq,rfl⟩:=ov.1 hi;rcases hnew q hq with h4|h4
     ·exact .inl h4
     ·exact absurd hj ((h4.2.2 p hp).2 hh hrw)
 ·rcases dG.1 hp with hp|hp
  ·simp only[e1 p hp]at e;exact hO.nw b ⟨p,hp,e⟩
  ·simp only[e2 p hp]at e;have hpo:=(h1 p hp).1;intro m hm;have:w'.cell? ⟨b,0,none⟩=w.cell? ⟨b,0,none⟩:=World.cell?_of_block (hg.block b (hlt p hpo b e) (hd1 b ⟨p,hp,e⟩));rw[this]at hm;exact h.nw b ⟨p,hpo,e⟩ m hm
 ·have cross : ∀ p ∈ os', ∀ q ∈ ow1, ∀ b, (f' p.1).ownBlock = some b -> (f q.1).ownBlock = some b -> False := fun p hp q hq b e e' => by
   rcases hb b ⟨p,hp,e⟩with h3|h3
   ·exact hd1 b ⟨q,hq,e'⟩ h3
   ·have:=hlt q (h1 q hq).1 b e';omega
  rcases dG.1 hp with hp|hp<;>rcases dG.1 hq with hq|hq
  ·simp only[e1 p hp,e1 q hq]at e e';exact hO.dj p hp q hq hne b e e'
  ·simp only[e1 p hp,e2 q hq]at e e';exact cross p hp q hq b e e'
  ·simp only[e2 p hp,e1 q hq]at e e';exact cross q hq p hp b e' e
  ·simp only[e2 p hp,e2 q hq]at e e';exact h.dj p (h1 p hp).1 q (h1 q hq).1 hne b e e'
 ·have cross : ∀ p ∈ os', ∀ q ∈ ow1, p.1 = q.1 -> False := fun p hp q hq e => by
   rcases hnew p hp with⟨q2,h4,e4⟩|h4
   ·exact(h1 q hq).2 q2 h4 (e4.trans e)
   ·exact(h4.2.2 q hq).1 e.symm
  rcases dG.1 hp with hp|hp<;>rcases dG.1 hq with hq|hq
  ·exact hO.un p hp q hq e
  ·exact(cross p hp q hq e).elim
  ·exact(cross q hq p hp e.symm).elim
  ·exact h.un p (h1 p hp).1 q (h1 q hq).1 e
end
end DW
end
section
open Go.RowKit
namespace DW
section
variable {P : Program} {X0 : Nat->Prop} {n : Nat} {Q : Exit->S->Prop} {s : S} {sl : List (Nat × D)} {ow : List (Nat × Ow)} {o : Oper} {ops : Array Oper} {l : List Oper} {K : S->Prop} {t : Nat} {d : D}
theorem AJ{X:Nat->Prop}{f:Nat->Value}{w:World}(s:S)(a:Act):∀l:List Operand,(∀x∈l,SR X f w (s.op x) (a.eval x))->SRs X f w (l.map s.op) (l.map a.eval)
 |[],_=>rfl
 |x::l,h=>⟨_,_,rfl,h x bp,AJ s a l fun y hy=>h y (bf _ hy)⟩
structure xa(sl:List (Nat×D))(ow os os' ow1:List (Nat×Ow))(r:D):Prop where
 sub:∀p∈os,p∈ow
 rest:∀p∈ow1,p∈ow/\∀q∈os,q.1≠p.1
 new:∀p∈os',(∃q∈os,q.1=p.1)\/(pin p.1=false/\(∀t,(look sl t).is p.1=false)/\∀q∈ow1,q.1≠p.1/\(hdr q.1=true->gD p.1=true->.own p.1∉q.2.l))
 men:∀p∈os',hdr p.1=true->∀j,.own j∈p.2.l->∃q∈os',q.1=j
 res:∀k,r.is k=true->∃q∈os',q.1=k
theorem BX{g:FuncId}{xs:List Operand}{ts:Array TypeId}{ds:List D}{os os' ow1:List (Nat×Ow)}{r:D}(hdst:o.dst=some t)(ht:Nat.blt t n=true)(ho:o.op= .call {callee:=.value (.func g),args:=xs.toArray,argTypes:=ts})(hd:xs.map (S.op ⟨sl,ow⟩)=ds)(hf:FnG P g ds os r os')(hc:xa sl ow os os' ow1 r)
  {w0:Bs} {f:Nat->Value} {a:Act} {w:World} (hh:Hd X0 n w0 ⟨sl,ow⟩ f a w) (Qx:Exit->Act->World->Prop):o.wp P a w (fun a' w'=>∃f',Hd X0 n w0 ⟨(t,r)::sl,os'++ow1⟩ f' a' w') Qx:=by
 have hr:(execOp a.eval o).run P w= .ok (.enter g (xs.map a.eval).toArray) w:=by
  unfold execOp;rw[ho];have:=hf.1 (xs.map a.eval).toArray w;simp[resolve,invoke,Deferred.ofValue,Act.eval,this]
 have hXB:XB (fun b=>XO X0 ⟨sl,ow⟩ f b/\¬blk f os b) f os=XO X0 ⟨sl,ow⟩ f:=funext fun b=>propext (by
  constructor
  ·rintro(h|⟨p,hp,e⟩)
   ·exact h.1
   ·exact .inr ⟨p,hc.sub p hp,e⟩
  ·intro h;by_cases hb:blk f os b
   ·exact .inr hb
   ·exact .inl ⟨h,hb⟩)
 have hO:OS (fun b=>XO X0 ⟨sl,ow⟩ f b/\¬blk f os b) f w os:=⟨fun p hp=>by rw[hXB];exact hh.ow p (hc.sub p hp),fun b ⟨p,hp,e⟩=>hh.nw b ⟨p,hc.sub p hp,e⟩,fun p hp q hq=>hh.dj p (hc.sub p hp) q (hc.sub q hq),fun p hp q hq=>hh.un p (hc.sub p hp) q (hc.sub q hq),fun b hb=>hb.2⟩;have hS:SRs (XB (fun b=>XO X0 ⟨sl,ow⟩ f b/\¬blk f os b) f os) f w ds (xs.map a.eval).toArray.toList:=by
  rw[hXB,<-hd];exact AJ ⟨sl,ow⟩ a xs fun x _=>hh.op x
 unfold Oper.wp;rw[hr,Oper.upon_enter];refine(hf.2 _ f w _ (fun b hb=>hh.xlt b hb.1) hO hS).mono fun e w' ⟨u,f',he,h1,h2,h3,h4,h5⟩=>?_;subst he;rw[hdst];exact⟨_,hh.call hc.sub hc.rest hc.new hc.men hc.res yP h1 h2 h3 h4 h5⟩
theorem yk{g:FuncId}{xs:List Operand}{ts:Array TypeId}{ds:List D}{os os':List (Nat×Ow)}{r:D}(ow1:List (Nat×Ow))(hg:o.guard=none)(hdst:o.dst=some t)(ht:Nat.blt t n=true)(ho:o.op= .call {callee:=.value (.func g),args:=xs.toArray,argTypes:=ts})(hd:xs.map (S.op ⟨sl,ow⟩)=ds)(hf:FnG P g ds os r os')(hc:xa sl ow os os' ow1 r)
  (h:aL P X0 n ops l K ⟨(t,r)::sl,os'++ow1⟩):aL P X0 n ops (o::l) K ⟨sl,ow⟩:=
 im fun w0 f a w Qx hh=>⟨by simp[Region.wanted,hg],Oper.wp_mono (fun _ _ ⟨f',h1⟩=>⟨_,f',h1,h⟩) (BX hdst ht ho hd hf hc hh Qx)⟩
theorem Hd.re{w0:Bs}{f f':Nat->Value}{a:Act}{w:World}{s':S}(h:Hd X0 n w0 s f a w)(τ:Nat->Nat)
  (h1:∀p∈s'.ow,∃q:Ow,(τ p.1,q)∈s.ow/\f' p.1=f (τ p.1)/\p.2.T=q.T/\p.2.wd=q.wd/\p.2.l.length=q.l.length/\∀X xs,EE X f w (τ p.1) q.wd q.l xs->EE X f' w p.1 q.wd p.2.l xs)
  (h2:∀p∈s'.ow,∀p2∈s'.ow,τ p.1=τ p2.1->p=p2) (h3:∀t X v,SR X f w (s.gt t) v->SR X f' w (s'.gt t) v) (h4:∀j,pin j=true->f' j=f j):Hd X0 n w0 s' f' a w:=by
 have hX:∀b,XO X0 s' f' b->XO X0 s f b:=fun b hb=>by
  rcases hb with hb|⟨p,hp,e⟩
  ·exact .inl hb
  ·obtain⟨q,q1,q2,_⟩:=h1 p hp;exact .inr ⟨_,q1,by rw[<-q2];exact e⟩
 refine⟨h.sz,h.df,h.bl,h.x0,h.xy,fun j hj=>(h4 j hj).trans (h.fx j hj),fun p hp b e=>?_,fun t=>?_,fun p hp=>?_,fun b ⟨p,hp,e⟩=>?_,fun p hp q hq hne b e e'=>?_,fun p hp q hq e=>h2 p hp q hq (by rw[e])⟩
 ·obtain⟨q,q1,q2,_⟩:=h1 p hp;exact h.lo _ q1 b (by rw[<-q2];exact e)
 ·have h5:=h3 t _ _ (h.sl t);cases hd:s'.gt t<;>rw[hd]at h5<;>first|exact AR.free h5 (fun b _ hb=>hX b hb)|exact h5
 ·obtain⟨q,q1,q2,q3,q4,q5,q6⟩:=h1 p hp;obtain⟨k0,zs,k1,k2⟩:=h.ow _ q1;refine⟨by rw[q4];exact k0,zs,by rw[q2,q3,q4,q5];exact k1,?_⟩;rw[q4];exact EE.agr (Agr.refl _ w) (fun b _ hb=>hX b hb) (fun _ _=>rfl) (q6 _ _ k2)
 ·obtain⟨q,q1,q2,_⟩:=h1 p hp;exact h.nw b ⟨_,q1,by rw[<-q2];exact e⟩
 ·obtain⟨q1,r1,r2,_⟩:=h1 p hp;obtain⟨q2,r3,r4,_⟩:=h1 q hq;exact h.dj _ r1 _ r3 (fun hh=>hne (by rw[h2 p hp q hq hh])) b (by rw[<-r2];exact e) (by rw[<-r4];exact e')
theorem ElH.map{X:Nat->Prop}{f f':Nat->Value}{w:World}:∀{l l':List D} {xs:List Value},ElH X f w l xs->l'.length=l.length->(∀(i:Nat) (d d':D),l[i]?=some d->l'[i]?=some d'->d'.wd=1/\∀u,ER X f w d u->ER X f' w d' u)->ElH X f' w l' xs
 |[],[],_,h,_,_=>h
 |[],_::_,_,_,h,_=>by simp at h
 |_::_,[],_,_,h,_=>by simp at h
 |d::_,d'::_,_,⟨u,rest,h1,h2,h3,h4,_,h6,h7⟩,hl,hh=>by
  obtain⟨k1,k2⟩:=hh 0 d d' rfl rfl;exact⟨u,rest,h1,h2,h3,k2 u h4,k1,h6,ElH.map h7 nE fun i e e' he he'=>hh (i+1) e e' pM (by simpa using he')⟩
end
end DW
end
section
open Go.RowKit
namespace DW
section
variable {P : Program} {X0 : Nat->Prop} {n : Nat} {Q : Exit->S->Prop} {s : S} {sl : List (Nat × D)} {ow : List (Nat × Ow)} {o : Oper} {ops : Array Oper} {l : List Oper} {K : S->Prop} {t : Nat} {d : D}
def mvD(a b:Nat):D->D
 | .own j=>match Nat.beq j a with|true=>.own b|false=>.own j
 | .opt j off=>match Nat.beq j a with|true=>.opt b off|false=>.opt j off
 |d=>d
def mvS(a b:Nat):List (Nat×D)->List (Nat×D)
 |[]=>[]
 |(t,d)::l=>(t,mvD a b d)::mvS a b l
theorem qj(a b:Nat):∀(l:List (Nat×D)) (t:Nat),look (mvS a b l) t=mvD a b (look l t)
 |[],_=>rfl
 |(u,d)::l,t=>by
  simp only[mvS,look];split
  ·rfl
  ·exact qj a b l t
def noS(b:Nat)(l:List (Nat×D)):Bool:=l.all fun p=>!p.2.is b
theorem mT{b:Nat}:∀{l:List (Nat×D)},noS b l=true->∀t,(look l t).is b=false
 |[],_,_=>rfl
 |(u,d)::l,h,t=>by
  simp only[noS,lM,bV,ke]at h;simp only[look];split
  ·exact h.1
  ·exact mT (l:=l) h.2 t
theorem Els.elh{X:Nat->Prop}{f:Nat->Value}{w:World}:∀{l:List D} {xs:List Value},Els X w 1 l xs->(∀d∈l,d.agg=false)->ElH X f w l xs
 |[],_,h,_=>h
 |d::l,_,⟨u,rest,h1,h2,h3,h4,h5,h6⟩,ha=>by
  have hs:=AR.shape h3 h2;rw[ha d bp]at hs;obtain⟨k1,k2⟩:=hs;refine⟨u,rest,by rw[h1,k2];rfl,k1,k2,?_,h4,fun m e=>AR.nwd d u h2 h5 m (by rw[k2,e];rfl),Els.elh h6 fun d hd=>ha d (bf _ hd)⟩;cases d<;>first|exact⟨h2,h3⟩|simp[D.fits]at h3
theorem Sh_mv{a b:Nat}{q:Ow}{ow':List (Nat×Ow)}(hq:(a,q)∈ow)(hb:pin b=false)(hh:hdr b=hdr a\/(hdr a=false/\q.wd=1/\∀d∈q.l,d.agg=false))(hf:∀p∈ow,p.1≠b/\(hdr p.1=true->.own b∉p.2.l))(hs:noS b sl=true)
  (ho:∀p∈ow',p=(b,q)\/(p∈ow/\p.1≠a)):Sh X0 n ⟨sl,ow⟩ ⟨mvS a b sl,ow'⟩:=fun w0 f ac w h=>by
 refine⟨fun j=>if j=b then f a else f j,h.re (fun k=>if k=b then a else k) (fun p hp=>?_) (fun p hp p2 hp2 e=>?_) (fun t X v hv=>?_) fun j hj=>aj fun e=>by rw[e,hb]at hj;cases hj⟩
 ·rcases ho p hp with rfl|⟨h1,h2⟩
  ·refine⟨q,by simp only[if_true];exact hq,by simp,rfl,rfl,rfl,fun X xs hx=>?_⟩;simp only[if_true]at hx;have hx2:EE X (fun j=>if j=b then f a else f j) w a q.wd q.l xs:=hx.re fun hh j _ hj=>aj fun e=>(hf _ hq).2 hh (by rw[<-e];exact hj);rcases hh with hh|⟨hh,h3,h4⟩
   ·unfold EE at hx2⊢;rw[hh];exact hx2
   ·have h5:=hx2.pl hh;unfold EE
    cases hdr b with
    |false=>exact h5
    |true=>rw[h3]at h5;exact⟨h3,h5.elh h4⟩
  ·have hkb:=(hf _ h1).1;refine⟨p.2,by simp only[aj hkb];exact h1,by simp only[aj hkb],rfl,rfl,rfl,fun X xs hx=>?_⟩;simp only[aj hkb]at hx;exact hx.re fun hh j _ hj=>aj fun e=>(hf _ h1).2 hh (by rw[<-e];exact hj)
 ·rcases ho p hp with rfl|⟨h1,h2⟩<;>rcases ho p2 hp2 with rfl|⟨h3,h4⟩
  ·rfl
  ·rw[aB rfl,aj (hf _ h3).1]at e;exact absurd e.symm h4
  ·rw[aB rfl,aj (hf _ h1).1]at e;exact absurd e h2
  ·rw[aj (hf _ h1).1,aj (hf _ h3).1]at e;exact h.un p h1 p2 h3 e
 ·show SR X _ w (look (mvS a b sl) t) v;rw[qj];have hv':SR X f w (look sl t) v:=hv;have h2:=mT hs t
  cases hd:look sl t with
  |own j=>
   rw[hd]at hv' h2;simp only[SR]at hv';simp only[mvD]
   cases hja:Nat.beq j a with
   |true=>simp only[SR,if_true];rw[<-cg hja];exact hv'
   |false=>simp only[SR];rw[aj fun e=>by rw[e]at h2;simp[D.is,de]at h2];exact hv'
  |opt j off=>
   rw[hd]at hv' h2;simp only[SR]at hv';simp only[mvD]
   cases hja:Nat.beq j a with
   |true=>simp only[SR,if_true];rw[<-cg hja];exact hv'
   |false=>simp only[SR];rw[aj fun e=>by rw[e]at h2;simp[D.is,de]at h2];exact hv'
  |_=>rw[hd]at hv';exact hv'
end
end DW
end
section
open Go.RowKit
namespace DW
theorem qE.mv{P:Program}{g:FuncId}{ds:List D}{a:Nat}{q:Ow}(h:qE P g ds [] (.own a) [(a,q)])(ha:hdr a=false){b:Nat}(hb:hdr b=false):qE P g ds [] (.own b) [(b,q)]:=fun X f w vs hX hO hv=>by
 refine(h X f w vs hX hO hv).mono fun e w' ⟨u,f',he,h1,h2,h3,h4,h5⟩=>?_;have hx:XB X (fun _=>f' a) [(b,q)]=XB X f' [(a,q)]:=funext fun x=>propext (by
  unfold XB blk;constructor
  ·rintro(h|⟨p,hp,e⟩)
   ·exact .inl h
   ·exact .inr ⟨_,bq.2 rfl,e⟩
  ·rintro(h|⟨p,hp,e⟩)
   ·exact .inl h
   ·rw[bq.1 hp]at e;exact .inr ⟨_,bq.2 rfl,e⟩)
 have hk:∀x,blk (fun _=>f' a) [(b,q)] x->blk f' [(a,q)] x:=fun x ⟨p,hp,e⟩=>⟨_,bq.2 rfl,e⟩;refine⟨u,fun _=>f' a,he,h1,⟨fun p hp=>?_,fun x hx=>h2.nw x (hk x hx),fun p hp q' hq hne=>?_,fun p hp q' hq _=>?_,fun x hx hb'=>h2.xd x hx (hk x hb')⟩,fun x hx=>h3 x (hk x hx),fun p hp=>(by cases hp),?_⟩
 ·rw[bq.1 hp,hx];obtain⟨k0,xs,k1,k2⟩:=h2.ow _ (bq.2 rfl);exact⟨k0,xs,k1,EE.of (k2.pl ha) hb⟩
 ·rw[bq.1 hp,bq.1 hq]at hne;exact absurd rfl hne
 ·rw[bq.1 hp,bq.1 hq]
 ·simp only[SR]at h5⊢;exact h5
section
variable {P : Program} {X0 : Nat->Prop} {n : Nat} {Q : Exit->S->Prop} {s : S} {sl : List (Nat × D)} {ow : List (Nat × Ow)} {o : Oper} {ops : Array Oper} {l : List Oper} {K : S->Prop} {t : Nat} {d : D}
theorem vY{k:Nat}(h:Nat.blt k 1000000=true):gD k=false:=by
 cases hb:gD k with
 |false=>rfl
 |true=>exact absurd rfl (jT h hb)
theorem vZ{k:Nat}(h:Nat.blt k 1000000=true):pin k=false:=by
 cases hb:pin k with
 |false=>rfl
 |true=>exact absurd rfl (jU h hb)
theorem zW{k:Nat}{q:Ow}(hk:Nat.blt k 1000000=true)(hs:noS k sl=true)(hf:ow.all (fun p=>!Nat.beq p.1 k)=true):xa sl ow [] [(k,q)] ow (.own k):=
 ⟨fun _ hp=>(by cases hp),fun p hp=>⟨hp,fun _ hq=>(by cases hq)⟩,fun p hp=>(by
  rw[bq.1 hp];exact .inr ⟨vZ hk,mT hs,fun q hq=>⟨hJ hf q hq,fun _ h=>(by rw[vY hk]at h;cases h)⟩⟩),fun p hp hh=>(by
  rw[bq.1 hp,gw hk]at hh;cases hh),fun j hj=>⟨_,bq.2 rfl,by simpa[D.is]using hj⟩⟩
theorem BP{g:FuncId}{x:Operand}{ts:Array TypeId}{d1:D}{k:Nat}{q:Ow}(hg:o.guard=none)(hdst:o.dst=some t)(ht:Nat.blt t n=true)(ho:o.op= .call {callee:=.value (.func g),args:=#[x],argTypes:=ts})(hx:S.op ⟨sl,ow⟩ x=d1)(hf:FnG P g [d1] [] (.own k) [(k,q)])(hk:Nat.blt k 1000000=true)(hs:noS k sl=true)(hfr:ow.all (fun p=>!Nat.beq p.1 k)=true)
  (h:aL P X0 n ops l K ⟨(t,.own k)::sl,(k,q)::ow⟩):aL P X0 n ops (o::l) K ⟨sl,ow⟩:=
 yk (xs:=[x]) (os:=[]) (os':=[(k,q)]) ow hg hdst ht ho (by rw[<-hx];rfl) hf (zW hk hs hfr) h
end
end DW
end
section
open Go.RowKit
namespace DW
def szs:List Value->Nat
 |[]=>0
 |u::l=>u.cells.size+szs l
def fls:List Value->List Value
 |[]=>[]
 |u::l=>u.cells.toList++fls l
def sS(k:Nat):List Value->List (Nat×Value)
 |[]=>[]
 |u::l=>(k,u)::sS (k+1) l
def oU(off:Nat):List Nat->List (Nat×Nat)
 |[]=>[]
 |s::l=>(off,s)::oU (off+s) l
theorem wv(place:Nat->Option (Nat×Nat)):∀(us:List Value) (k:Nat) (done:List Value) (cells:Array Value),cells.toList.take done.length=done->cells.size=done.length+szs us->
  (∀i x,(oU done.length (us.map (·.cells.size)))[i]?=some x->place (k+i)=some x)->Instr.fill place cells (sS k us)=some (done++fls us).toArray
 |[],k,done,cells,h1,h2,_=>by
  simp only[sS,Instr.fill,fls,List.append_nil];have:cells.toList.length=done.length:=by simpa[szs]using h2
  rw[jh aa]at h1;rw[<-h1]
 |u::us,k,done,cells,h1,h2,h3=>by
  have h4:place k=some (done.length,u.cells.size):=h3 0 _ rfl;simp only[szs]at h2;simp only[sS,Instr.fill,h4];rw[aj fB];have hf:=CI.wo u.cells.toList done.length cells fB;rw[h1]at hf;have hd:(done++u.cells.toList).length=done.length+u.cells.size:=by simp
  have ih:=wv place us (k+1) (done++u.cells.toList) (u.cells.toList.zipIdx.foldl (fun cs (x:Value×Nat)=>cs.setIfInBounds (done.length+x.2) x.1) cells) (by
   rw[hf,List.take_left' rfl]) (by
   have hl:=jG List.length hf;simp only[bL,cT,eu]at hl;rw[hd];omega) (fun i x hx=>by
   rw[hd]at hx;have:=h3 (i+1) x (by simpa[oU]using hx);rwa[show k+(i+1)=k+1+i by omega]at this)
  rw[<-vc,Array.toList_zipIdx,ih];simp only[fls,fq]
section
variable {P : Program} {s : S} {o : Oper} {d : D}
def zr(P:Program)(T:TypeId):Option (Nat×List (Nat×Nat)):=
 (P.info? T).bind fun it=>it.zero.bind fun z=>match P.underlying T with
  |some (.struct fs)=>(fs.toList.mapM (fun f=>(P.info? f.type).map fun i=>(f.offset,i.size))).map fun pl=>(z.cells.size,pl)
  |_=>none
theorem BH{T:TypeId}{us:List Value}(h:zr P T=some (szs us,oU 0 (us.map (·.cells.size)))):P.built T (sS 0 us)=some (fls us).toArray:=by
 unfold zr at h;obtain⟨it,h1,h⟩:=fK.1 h;obtain⟨z,h2,h⟩:=fK.1 h;unfold Program.built;rw[h1]
 cases hu:P.underlying T with
 |none=>rw[hu]at h;cases h
 |some dd=>
  rw[hu]at h;cases dd<;>simp only[reduceCtorEq]at h
  next fs=>
  obtain⟨pl,h3,h4⟩:=fF.1 h;simp only[av]at h4;simp only[h2,h3];have:=wv (pl.toArray[·]?) us 0 [] z.cells aY (by simp[h4.1]) (fun i x hx=>by
   rw[bQ];simpa[h4.2]using hx)
  simpa using this
theorem yd{X:Nat->Prop}{f:Nat->Value}{w:World}:∀{ds:List D} {us:List Value},us.length=ds.length->(∀(i:Nat) (d:D) (u:Value),ds[i]?=some d->us[i]?=some u->SR X f w d u/\d.fits=true)->ASt X w ds (fls us)
 |[],[],_,_=>by simp only[ASt,fls]
 |[],_::_,h,_=>by simp at h
 |_::_,[],h,_=>by simp at h
 |d::ds,u::us,h,hh=>by
  obtain⟨h1,h2⟩:=hh 0 d u rfl rfl;simp only[ASt,fls];refine⟨u,fls us,rfl,?_,h2,yd (by simpa using h) fun i e v he hv=>hh (i+1) e v pM (by simpa using hv)⟩;cases d<;>first|exact h1|simp[D.fits]at h2
theorem CV{T:TypeId}{xs:List Operand}{ds:List D}{ps:Array (Nat×Operand)}(ho:o.op= .build T ps)(hp:ps.toList.map (·.2)=xs)(hn:∀e:Operand->Value,ps.toList.map (fun p=>(p.1,e p.2))=sS 0 (xs.map e))(hx:xs.map s.op=ds)(hf:∀d∈ds,d.fits=true)
  (hs:zr P T=some (D.wds ds,oU 0 (ds.map D.wd))):bc P o s (.st ds):=fun X f a w base _ _ hh=>by
 have hop:∀x∈xs,x∈o.op.operands:=fun x hx'=>by
  rw[ho];rw[<-hp]at hx';simpa[Op.operands]using hx'
 have hl:(xs.map a.eval).length=ds.length:=by rw[<-hx];simp
 have hi:∀(i:Nat) (d:D) (u:Value),ds[i]?=some d->(xs.map a.eval)[i]?=some u->SR X f w d u/\d.fits=true:=fun i d u hd hu=>by
  rw[dU]at hu;obtain⟨x,h1,rfl⟩:=fF.1 hu;rw[<-hx,dU,h1]at hd;cases hd;exact⟨hh x (hop x (bU h1)),hf _ (by rw[<-hx];exact mC.2 ⟨x,bU h1,rfl⟩)⟩
 have hw':∀(ds:List D) (us:List Value),us.length=ds.length->(∀(i:Nat) (d:D) (u:Value),ds[i]?=some d->us[i]?=some u->SR X f w d u/\d.fits=true)->us.map (·.cells.size)=ds.map D.wd:=fun ds=>by
  induction ds with
  |nil=>intro us h _;rw[iy h];rfl
  |cons d ds ih=>
   intro us h hh
   cases us with
   |nil=>simp at h
   |cons u us=>
    obtain⟨k1,k2⟩:=hh 0 d u rfl rfl;simp only[du];rw[ih us (by simpa using h) fun i e v he hv=>hh (i+1) e v pM (by simpa using hv),AR.size (X:=X) (w:=w) d u k2 (by cases d<;>first|exact k1|simp[D.fits]at k2)]
 have hw:=hw' ds (xs.map a.eval) hl hi;have hz:∀us:List Value,szs us=(us.map (·.cells.size)).sum:=fun us=>by
  induction us with
  |nil=>rfl
  |cons u us ih=>simp only[szs,du,List.sum_cons,ih]
 have hz2:∀ds:List D,D.wds ds=(ds.map D.wd).sum:=fun ds=>by
  induction ds with
  |nil=>rfl
  |cons u us ih=>simp only[D.wds,du,List.sum_cons,ih]
 have hb:=BH (P:=P) (T:=T) (us:=xs.map a.eval) (by rw[hz,hw,<-hz2];exact hs);refine dw (u:=.agg (fls (xs.map a.eval)).toArray) ?_ (by
  simp only[SR,AR];exact⟨_,rfl,by simpa using yd hl hi⟩)
 unfold execOp;rw[ho];have:=run_build (P:=P) w T (ps.map fun p=>(p.1,a.eval p.2)) _ (by
  have:=hn a.eval;simp only[Array.toList_map];rw[this];exact hb)
 simp only[Sem.run_bind,this];rfl
theorem CW{T:TypeId}{x y:Operand}{d1 d2:D}{w1 w2:Nat}(ho:o.op= .build T #[(0,x),(1,y)])(hx:s.op x=d1)(hy:s.op y=d2)(h1:(d1.fits,d1.wd)=(true,w1))(h2:(d2.fits,d2.wd)=(true,w2))(hs:zr P T=some (w1+(w2+0),[(0,w1),(0+w1,w2)])):bc P o s (.st [d1,d2]):=by
 simp only[av]at h1 h2;refine CV (xs:=[x,y]) ho rfl (fun _=>rfl) (by rw[<-hx,<-hy];rfl) (fun d hd=>?_) ?_
 ·rcases aZ.1 hd with e|hd
  ·rw[e];exact h1.1
  ·rw[bq.1 hd];exact h2.1
 ·simp only[D.wds,du,jf,oU,h1.2,h2.2];exact hs
end
end DW
end
section
open Go.RowKit
namespace DW
def rk(i:Nat):Nat:=1000000+i
section
variable {P : Program} {X0 : Nat->Prop} {n : Nat} {Q : Exit->S->Prop} {s : S} {sl : List (Nat × D)} {T T1 : TypeId} {wd : Nat} {g : List Int->List D} {E : List (Nat × Ow)} {M : List (List Int)}
end
end DW
end
section
open Go.RowKit
namespace DW
theorem nY{a:Act}{dst:Option Tmp}{v:Value}{u:Nat}(h:dst≠some u):(a.put dst v).tmps.getD u undef=a.tmps.getD u undef:=by
 cases dst with
 |none=>rfl
 |some t=>
  have:t≠u:=fun e=>h (by rw[e]);unfold Act.put;simp[bZ,qR this]
theorem EI{P:Program}{o:Oper}{a:Act}{w:World}{K:Act->World->Prop}{Q Q':Exit->Act->World->Prop}(hp:∀c a w,Q (.panic c) a w->Q' (.panic c) a w)(hl:LetsOut Q->LetsOut Q')(hh:o.wp P a w K Q):
  o.wp P a w (fun a' w'=>K a' w'/\∀u,o.dst≠some u->a'.tmps.getD u undef=a.tmps.getD u undef) Q':=by
 unfold Oper.wp at*;generalize(execOp a.eval o).run P w=r at*
 cases r with
 |ok n w'=>
  cases n with
  |value v=>simp only[Oper.upon]at hh⊢;exact⟨hh,fun u h=>nY h⟩
  |skip=>simp only[Oper.upon]at hh⊢;exact⟨hh,fun u h=>nY h⟩
  |defer d=>simp only[Oper.upon]at hh⊢;exact⟨hh,fun u h=>nY (a:={a with defers:=d::a.defers}) h⟩
  |enter f args=>
   simp only[Oper.upon]at hh⊢;refine Calls.mono hh fun e w'' he=>?_
   cases e with
   |returned v=>exact⟨he,fun u h=>nY h⟩
   |panicked c=>exact hp _ _ _ he
   |outgrown=>exact hl he
  |row row args=>simp only[Oper.upon]at hh⊢;exact Rows.mono hh fun v w'' he=>⟨he,fun u h=>nY h⟩
  |_=>simp only[Oper.upon]at hh
 |halt x w'=>
  cases x with
  |panic v=>simp only[Oper.upon]at hh⊢;exact hp _ _ _ hh
  |_=>simp only[Oper.upon]at hh
section
variable {P : Program} {X0 : Nat->Prop} {n : Nat} {ops : Array Oper} {s : S} {sl : List (Nat × D)} {ow : List (Nat × Ow)} {o : Oper} {l : List Oper} {t : Nat} {d : D} {K : S->Prop} {fs : List FP}
theorem vj{S0 S1:S}(hA:aL P X0 n ops [o] (fun s=>s=S1) S0){w0:Bs}{f:Nat->Value}{a:Act}{w:World}(hw:Region.wanted o (yielded ops a.tmps)=true)(hh:Hd X0 n w0 S0 f a w)(Qx:Exit->Act->World->Prop):
  o.wp P a w (fun a' w'=>(∃f',Hd X0 n w0 S1 f' a' w')/\∀u,o.dst≠some u->a'.tmps.getD u undef=a.tmps.getD u undef) Qx:=by
 have h:=hA w0 f a w (fun e a' w'=>e= .normal/\∃f',Hd X0 n w0 S1 f' a' w') hh fun s' f' a' w' h1 h2=>⟨rfl,f',by rw[<-h2];exact h1⟩;unfold wpList at h;rw[aB hw]at h;have h':=h.resolve_right fun hx=>by
  obtain⟨_,_,_,hx,_⟩:=hx;cases hx
 refine Oper.wp_mono (fun a' w' hx=>?_) (EI (Q':=Qx) (fun c a w hx=>by cases hx.1) (fun hx=>by obtain⟨_,_,hx,_⟩:=hx;cases hx) h');obtain⟨h1,h2⟩:=hx;unfold wpList at h1;exact⟨h1.2,h2⟩
theorem iQ{k u:Nat}:∀{r:List (Nat×D)},(look r u).is k=false->look (kill k r) u=look r u
 |[],_=>rfl
 |(v,d')::r,hh=>by
  simp only[kill,look]at hh⊢;split
  ·next e=>rw[aB e]at hh;rw[hh]
  ·next e=>rw[aj e]at hh;exact iQ hh
theorem wj{w0:Bs}{f g:Nat->Value}{a':Act}{w w':World}{k:Nat}{ow1:List (Nat×Ow)}(h:Hd X0 n w0 ⟨(t,d)::kill k sl,ow1⟩ f a' w')(h0:∀u,(look sl u).is k=true->u≠t->SR (fun _=>False) g w (look sl u) (a'.tmps.getD u undef))(hk1:∀p∈ow1,p.1≠k)(hk:Nat.blt k 1000000=true)(hd:d.is k=false):∃f',Hd X0 n w0 ⟨(t,d)::sl,ow1⟩ f' a' w':=by
 obtain⟨F,hF⟩:∃F:Nat->Value,F=fun j=>if j=k then g k else f j:=⟨_,rfl⟩
 have hFk:F k=g k:=by rw[hF];exact aB rfl
 have hFn:∀j,j≠k->F j=f j:=fun j hj=>by rw[hF];exact aj hj
 clear hF;have he:∀p∈ow1,F p.1=f p.1:=fun p hp=>hFn _ (hk1 p hp);have hX:∀sx:List (Nat×D),XO X0 ⟨sx,ow1⟩ F=XO X0 ⟨(t,d)::kill k sl,ow1⟩ f:=fun sx=>funext fun b=>propext (by
  unfold XO;constructor
  ·rintro(h|⟨p,hp,q⟩)
   ·exact .inl h
   ·exact .inr ⟨p,hp,by rw[<-he p hp];exact q⟩
  ·rintro(h|⟨p,hp,q⟩)
   ·exact .inl h
   ·exact .inr ⟨p,hp,by rw[he p hp];exact q⟩)
 have sr:∀{X:Nat->Prop} {d':D} {v:Value},d'.is k=false->SR X f w' d' v->SR X F w' d' v:=fun {X d' v} hn hv=>by
  cases d' with
  |own j=>
   have:j≠k:=fun e=>by subst e;simp[D.is]at hn
   simp only[SR,hFn j this]at hv⊢;exact hv
  |opt j off=>
   have:j≠k:=fun e=>by subst e;simp[D.is]at hn
   simp only[SR,hFn j this]at hv⊢;exact hv
  |_=>exact hv
 refine⟨F,h.sz,h.df,h.bl,h.x0,h.xy,fun j hj=>?_,fun p hp b hb=>h.lo p hp b (by rw[<-he p hp];exact hb),fun u=>?_,fun p hp=>?_,fun b hb=>?_,fun p hp q hq hne b hb=>?_,h.un⟩
 ·rw[hFn j (jU hk hj)];exact h.fx j hj
 ·rw[hX];show SR _ _ _ (look ((t,d)::sl) u) _;have h1:SR (XO X0 ⟨(t,d)::kill k sl,ow1⟩ f) f w' (look ((t,d)::kill k sl) u) (a'.tmps.getD u undef):=h.sl u;simp only[look]at h1⊢;by_cases hu:t=u
  ·rw[aB hu]at h1⊢;exact sr hd h1
  ·rw[aj hu]at h1⊢
   cases hi:(look sl u).is k with
   |true=>
    have h2:=h0 u hi (Ne.symm hu)
    cases hq:look sl u with
    |own j=>
     rw[hq]at hi h2;have:j=k:=by simpa[D.is]using hi
     subst this;simp only[SR,hFk]at h2⊢;exact h2
    |opt j off=>
     rw[hq]at hi h2;have:j=k:=by simpa[D.is]using hi
     subst this;simp only[SR,hFk]at h2⊢;exact h2
    |_=>rw[hq]at hi;simp[D.is]at hi
   |false=>
    rw[iQ hi]at h1;exact sr hi h1
 ·obtain⟨k0,zs,k1,k2⟩:=h.ow p hp;refine⟨k0,zs,?_,?_⟩
  ·rw[he p hp];exact k1
  ·rw[hX];exact EE.agr (Agr.refl _ w') (fun _ _ h=>h) (fun j hj=>hFn j (jT hk hj)) k2
 ·obtain⟨p,hp,q⟩:=hb;exact h.nw b ⟨p,hp,by rw[<-he p hp];exact q⟩
 ·rw[he q hq];exact h.dj p hp q hq hne b (by rw[<-he p hp];exact hb)
theorem AV{k wd:Nat}{l:List D}{d:D}(h:d.is k=false):gn k wd l d=d:=by
 cases d with
 |own j=>simp only[gn];rw[show Nat.beq j k=false from h]
 |opt j off=>simp only[gn];rw[show Nat.beq j k=false from h]
 |_=>rfl
theorem Fm{a b:Nat}{d:D}(h:d.is a=false):mvD a b d=d:=by
 cases d with
 |own j=>simp only[mvD];rw[show Nat.beq j a=false from h]
 |opt j off=>simp only[mvD];rw[show Nat.beq j a=false from h]
 |_=>rfl
theorem qo(b:Nat):∀l:List (Nat×D),noS b (kill b l)=true
 |[]=>rfl
 |(u,d)::l=>by
  have ih:=qo b l;unfold noS at ih⊢;simp only[kill,lM,ih,Bool.and_true]
  cases h:d.is b with
  |true=>rfl
  |false=>simp[h]
theorem sD{k:Nat}{l2:List D}{q:Ow}:∀{l:List (Nat×Ow)},(k,q)∈l->(k,(⟨q.T,q.wd,q.l++l2⟩:Ow))∈upd k l2 l
 |(j,r)::l,h=>by
  simp only[upd];rcases aZ.1 h with h|h
  ·cases h;rw[aB rfl];exact bp
  ·split
   ·exact bf _ (sD h)
   ·exact bf _ (sD h)
theorem pV{k:Nat}{l2:List D}:∀{l:List (Nat×Ow)} {p:Nat×Ow},p.1≠k->(p∈upd k l2 l↔p∈l)
 |[],p,_=>Iff.rfl
 |(j,r)::l,p,h=>by
  have ih:=pV (k:=k) (l2:=l2) (l:=l) h;simp only[upd];split
  ·next e=>
   have n1:p≠(j,⟨r.T,r.wd,r.l++l2⟩):=fun e'=>h (by rw[e'];exact e);have n2:p≠(j,r):=fun e'=>h (by rw[e'];exact e);simp only[aZ,n1,n2,false_or];exact ih
  ·simp only[aZ,ih]
theorem sE{k:Nat}{l2:List D}:∀{l:List (Nat×Ow)} {p:Nat×Ow},p∈upd k l2 l->∃q∈l,q.1=p.1
 |(j,r)::l,p,h=>by
  simp only[upd]at h;split at h
  ·rcases aZ.1 h with h|h
   ·exact⟨_,bp,by rw[h]⟩
   ·obtain⟨q,h1,h2⟩:=sE h;exact⟨q,bf _ h1,h2⟩
  ·rcases aZ.1 h with h|h
   ·exact⟨_,bp,by rw[h]⟩
   ·obtain⟨q,h1,h2⟩:=sE h;exact⟨q,bf _ h1,h2⟩
theorem sV{k:Nat}{l:List (Nat×Ow)}{p:Nat×Ow}:p∈cut k l↔p∈l/\p.1≠k:=by
 unfold cut;rw[List.mem_filter];constructor
 ·rintro⟨h1,h2⟩;exact⟨h1,fun e=>by rw[e]at h2;simp at h2⟩
 ·rintro⟨h1,h2⟩;exact⟨h1,by rw[mf h2];rfl⟩
theorem Gb{k:Nat}:cut k []=[]:=rfl
theorem Gc{j k:Nat}{q:Ow}{l l':List (Nat×Ow)}(h:Nat.beq j k=true)(e:cut k l=l'):cut k ((j,q)::l)=l':=by
 unfold cut at e⊢;rw[gH (by simp[h])];exact e
theorem Hd.less{w0:Bs}{f:Nat->Value}{a:Act}{w:World}{ow1 ow2:List (Nat×Ow)}{sl1 sl2:List (Nat×D)}(h:Hd X0 n w0 ⟨sl1,ow1⟩ f a w)(h1:∀p,p∈ow2↔p∈ow1)(h2:∀u,look sl1 u=look sl2 u):Hd X0 n w0 ⟨sl2,ow2⟩ f a w:=by
 have hX:XO X0 ⟨sl2,ow2⟩ f=XO X0 ⟨sl1,ow1⟩ f:=funext fun b=>propext (by
  unfold XO;constructor
  ·rintro(h|⟨p,hp,q⟩)
   ·exact .inl h
   ·exact .inr ⟨p,(h1 p).1 hp,q⟩
  ·rintro(h|⟨p,hp,q⟩)
   ·exact .inl h
   ·exact .inr ⟨p,(h1 p).2 hp,q⟩)
 refine⟨h.sz,h.df,h.bl,h.x0,h.xy,h.fx,fun p hp=>h.lo p ((h1 p).1 hp),fun u=>?_,fun p hp=>by rw[hX];exact h.ow p ((h1 p).1 hp),fun b hb=>?_,fun p hp q hq=>h.dj p ((h1 p).1 hp) q ((h1 q).1 hq),fun p hp q hq=>h.un p ((h1 p).1 hp) q ((h1 q).1 hq)⟩
 ·rw[hX];show SR _ _ _ (look sl2 u) _;rw[<-h2 u];exact h.sl u
 ·obtain⟨p,hp,q⟩:=hb;exact h.nw b ⟨p,(h1 p).1 hp,q⟩
theorem xU{X:Nat->Prop}{f:Nat->Value}{w:World}{j:Nat}:∀{l:List D} {xs:List Value},ElH X f w l xs->.own j∈l->gD j=true
 |d::l,xs,⟨u,rest,h1,h2,h3,h4,h5,h6,h7⟩,h=>by
  rcases aZ.1 h with h|h
  ·rw[<-h]at h4;exact h4.1
  ·exact xU h7 h
theorem Hi{x y:Operand}{tt:TypeId}{k:Nat}{q:Ow}{wd:Nat}{l2:List D}{f:FP}{nw:List (Nat×Ow)}(hg:o.guard=none)(hdst:o.dst=some t)(ht:Nat.blt t n=true)
  (ho:o.op= .call {callee:= .builtin .append,args:= #[x,y],argTypes:= #[tt,tt]}) (hx:S.op ⟨sl,ow⟩ x= .own k) (hy:S.op ⟨sl,ow⟩ y= .ls wd l2) (hk:(k,q)∈ow) (hwd:wd=q.wd) (hn2:l2.all D.nw=true)
  (htt:P.underlying tt=some (.slice q.T)) (hI:(P.info? q.T).map (fun i=>(i.zero.map (·.cells.size),i.size,decide (i.bytes<=100000)))=some (some q.wd,q.wd,true)) (hlen:q.l.length+l2.length<=1000000000)
  (hk0:Nat.blt k 1000000=true) (hrc:k∈f.rc)
  (hnw:(nw=[]/\d= .ls wd (q.l++l2))\/∃j,nw=[(j,⟨q.T,q.wd,q.l++l2⟩)]/\d= .own j/\j∈f.al/\j≠k/\Nat.blt j 1000000=true/\ow.all (fun p=> !Nat.beq p.1 j)=true):MS P X0 n ops o ⟨sl,ow⟩ (.app k nw d) f:=fun σ ag w0 g a w hh Qx=>by
 have hw:=sB hh (ag.cP (nQ hg rfl));rw[aB hw];have hkσ:=ag.xP hrc hk;have h1:S.op ⟨σ.sl,σ.ow⟩ x= .own k:=by
  show σ.op x=_;rw[ag.op fb];exact hx
 have h2:S.op ⟨σ.sl,σ.ow⟩ y= .ls wd l2:=by
  show σ.op y=_;rw[ag.op fb];exact hy
 have hA:aL P X0 n ops [o] (fun s=>s=⟨(t, .own k)::kill k σ.sl,upd k l2 σ.ow⟩) ⟨σ.sl,σ.ow⟩:=wX hg hdst ht ho h1 h2 hkσ hwd hn2 htt hI hlen rfl rfl (aJ rfl) hk0;refine Oper.wp_mono (fun a' w' ⟨⟨f',h3⟩,h4⟩=>?_) (vj hA hw hh Qx);rw[hdst];have old:∀u,(look σ.sl u).is k=true->u≠t->SR (fun _=>False) g w (look σ.sl u) (a'.tmps.getD u undef):=fun u hu hne=>by
  rw[h4 u (by rw[hdst];exact fun e=>hne (Option.some.inj e).symm)];have h5:SR (XO X0 σ g) g w (look σ.sl u) (a.tmps.getD u undef):=hh.sl u
  cases hq:look σ.sl u with
  |own j=>rw[hq]at h5;exact h5
  |opt j off=>rw[hq]at h5;exact h5
  |_=>rw[hq]at hu;simp[D.is]at hu
 have hlk:∀u,(look (kill k σ.sl) u).is k=false:=fun u=>by
  rcases eX k σ.sl u with⟨e1,e2⟩|e
  ·rw[e1];exact e2
  ·rw[e];rfl
 have hcm:∀p,p∈cut k σ.ow↔p∈upd k l2 σ.ow/\p.1≠k:=fun p=>by
  rw[sV];constructor
  ·rintro⟨e1,e2⟩;exact⟨(pV e2).2 e1,e2⟩
  ·rintro⟨e1,e2⟩;exact⟨(pV e2).1 e1,e2⟩
 have hum:=sD (l2:=l2) hkσ;rcases hnw with⟨rfl,rfl⟩|⟨j,rfl,rfl,hj1,hj2,hj3,hj4⟩
 ·obtain⟨f2,h5⟩:=ym (s:=⟨(t, .own k)::kill k σ.sl,upd k l2 σ.ow⟩) (n:=n) hum (gw hk0) w0 f' a' w' h3;have h6:Hd X0 n w0 ⟨(t, .ls wd (q.l++l2))::kill k σ.sl,cut k σ.ow⟩ f2 a' w':=h5.less (fun p=>by
   rw[hcm];constructor
   ·rintro⟨e1,e2⟩;have key:∀{l:List (Nat×Ow)},p∈l->p∈dL k l:=fun {l}=>by
     induction l with
     |nil=>intro h;cases h
     |cons r l ih=>
      intro h;simp only[dL];rcases aZ.1 h with h|h
      ·subst h;rw[aj e2];exact bp
      ·split
       ·exact ih h
       ·exact bf _ (ih h)
    exact key e1
   ·exact fun e=>cS e) fun u=>by
    rw[oh];simp only[look];split
    ·subst hwd;simp[gn]
    ·exact AV (hlk u)
  exact wj h6 (g:=g) (w:=w) old (fun p hp=>(sV.1 hp).2) hk0 rfl
 ·have hjf : ∀ p ∈ upd k l2 σ.ow, p.1 ≠ j := fun p hp e => by
   obtain⟨r,r1,r2⟩:=sE hp;obtain⟨e1,_⟩:=ag.al j hj1;have h7:=jS.2 (show(j,r.2)∈σ.ow by rw[<-e,<-r2];exact r1);rw[e1]at h7;exact hJ hj4 _ (jS.1 h7) rfl
  have hjs:=(ag.al j hj1).2;have h3':Hd X0 n w0 ⟨kill j ((t, .own k)::kill k σ.sl),upd k l2 σ.ow⟩ f' a' w':=h3.kill
  obtain ⟨f2, h5⟩ := Sh_mv (X0 := X0) (n := n) (a := k) (b := j) (ow' := (j, ⟨q.T, q.wd, q.l ++ l2⟩) :: cut k σ.ow) hum (by
      cases hb:pin j with
      |false=>rfl
      |true=>exact absurd rfl (jU hj3 hb)) (.inl (by rw[gw hj3,gw hk0])) (fun p hp=>⟨hjf p hp,fun hh hm=>by
      obtain⟨_,zs,_,k2⟩:=h3.ow p hp;unfold EE at k2;rw[hh]at k2;exact jT hj3 (xU k2.2 hm) rfl⟩) (qo _ _) (fun p hp=>by
      rcases aZ.1 hp with e|e
      ·exact .inl e
      ·exact .inr ((hcm p).1 e)) w0 f' a' w' h3'
  have h6 : Hd X0 n w0 ⟨(t, .own j) :: kill k σ.sl, (j, ⟨q.T, q.wd, q.l ++ l2⟩) :: cut k σ.ow⟩ f2 a' w' := h5.less (fun p => Iff.rfl) fun u => by
      have hku:Nat.beq k j=false:=mf (Ne.symm hj2);rw[qj];have e0:(look ((t, .own k)::kill k σ.sl) u).is j=false:=by
       simp only[look];split
       ·exact hku
       ·rcases eX k σ.sl u with⟨e1,e2⟩|e
        ·rw[e1];exact hjs u
        ·rw[e];rfl
      rw[iQ e0];simp only[look];split
      ·simp[mvD]
      ·exact Fm (hlk u)
  exact wj h6 (g:=g) (w:=w) old (fun p hp=>by
   rcases aZ.1 hp with e|e
   ·rw[e];exact hj2
   ·exact(sV.1 e).2) hk0 (mf hj2)
theorem Ix{x y:Operand}{tt:TypeId}{k:Nat}{q:Ow}{wd:Nat}{l2:List D}{ow':List (Nat×Ow)}(hg:o.guard=none)(hdst:o.dst=some t)(ht:Nat.blt t n=true)
  (ho:o.op= .call {callee:=.builtin .append,args:=#[x,y],argTypes:=#[tt,tt]}) (hx:S.op ⟨sl,ow⟩ x= .own k) (hy:S.op ⟨sl,ow⟩ y= .ls wd l2) (hk:(k,q)∈ow) (hwd:wd=q.wd) (hn2:l2.all D.nw=true)
  (htt:P.underlying tt=some (.slice q.T)) (hI:(P.info? q.T).map (fun i=>(i.zero.map (·.cells.size),i.size,decide (i.bytes<=100000)))=some (some q.wd,q.wd,true)) (hlen:q.l.length+l2.length<=1000000000)
  (hc:cut k ow=ow') (h:aM P X0 n ops l ⟨(t,.ls wd (q.l++l2))::sl,ow'⟩ fs K) (hk0:Nat.blt k 1000000=true:=by exact rfl):aM P X0 n ops (o::l) ⟨sl,ow⟩ (⟨[k],[],[k],[1000000000+k],[]⟩::fs) K:=by
 subst hc;have hkd:k∈dlN [1000000000+k]:=by
  simp only[dlN];have:Nat.ble 1000000000 (1000000000+k)=true:=by rw[Nat.ble_eq];omega
  rw[this];simp
 exact⟨_,fs,.app k [] (.ls wd (q.l++l2)),rfl,⟨bq.2 rfl,hkd,(fun p hp=>nomatch hp),(fun k' hk'=>nomatch hk')⟩,
  Hi hg hdst ht ho hx hy hk hwd hn2 htt hI hlen hk0 (bq.2 rfl) (.inl ⟨rfl,rfl⟩),by rw[hdst];exact h⟩
section
variable {ks : List Nat} {acc : List FP}
theorem wW{x y:Operand}{tt:TypeId}{k:Nat}{q:Ow}{wd:Nat}{l2:List D}{ow':List (Nat×Ow)}(hg:o.guard=none)(hdst:o.dst=some t)(ht:Nat.blt t n=true)
 (ho:o.op= .call {callee:=.builtin .append,args:=#[x,y],argTypes:=#[tt,tt]}) (hx:S.op ⟨sl,ow⟩ x= .own k) (hy:S.op ⟨sl,ow⟩ y= .ls wd l2) (hk:(k,q)∈ow) (hwd:wd=q.wd) (hn2:l2.all D.nw=true)
 (htt:P.underlying tt=some (.slice q.T)) (hI:(P.info? q.T).map (fun i=>(i.zero.map (·.cells.size),i.size,decide (i.bytes<=100000)))=some (some q.wd,q.wd,true)) (hlen:q.l.length+l2.length<=1000000000)
 (hc:cut k ow=ow') (h:aN P X0 n ops ks l ⟨(t,.ls wd (q.l++l2))::sl,ow'⟩ (⟨[k],[],[k],[1000000000+k],[]⟩::acc) K) (hk0:Nat.blt k 1000000=true:=by exact rfl):aN P X0 n ops ks (o::l) ⟨sl,ow⟩ acc K:=Ag (fun _ h=>Ix hg hdst ht ho hx hy hk hwd hn2 htt hI hlen hc h hk0) h
end
end
end DW
end
section
open Go.RowKit
namespace DW
section
variable {P : Program} {X0 : Nat->Prop} {n : Nat} {ops : Array Oper} {s : S} {sl : List (Nat × D)} {ow : List (Nat × Ow)} {o : Oper} {l : List Oper} {t : Nat} {d : D} {K : S->Prop} {fs : List FP}
theorem Fa{σ:S}{k:Nat}(h:∀u,(look σ.sl u).is k=false)(x:Operand):S.op ⟨kill k σ.sl,σ.ow⟩ x=S.op σ x:=by
 cases x with
 |tmp u=>exact iQ (h u)
 |_=>rfl
theorem Hh{k:Nat}{q:Ow}(hg:o.guard=none)(hdst:o.dst=some t)(hk:Nat.blt k 1000000=true)(hfr:ow.all (fun p=>!Nat.beq p.1 k)=true)
  (hA:∀σ:S,(∀x∈o.op.operands,S.op σ x=S.op ⟨sl,ow⟩ x)->noS k σ.sl=true->σ.ow.all (fun p=>!Nat.beq p.1 k)=true->aL P X0 n ops [o] (fun s=>s=⟨(t,.own k)::σ.sl,(k,q)::σ.ow⟩) σ)
  (h:aM P X0 n ops l ⟨(t,.own k)::sl,(k,q)::ow⟩ fs K):aM P X0 n ops (o::l) ⟨sl,ow⟩ (⟨[],[],[],[k],[]⟩::fs) K:=
 ⟨_,fs,.alloc k q (.own k),rfl,⟨bq.2 rfl,fun k' hk'=>by have:=xG hk';simpa[D.vV]using this⟩,fun σ ag w0 g a w hh Qx=>by
  have hw:=sB hh (ag.cP (nQ hg rfl));rw[aB hw];obtain⟨e1,e2⟩:=ag.al k (bq.2 rfl);have hfr':σ.ow.all (fun p=>!Nat.beq p.1 k)=true:=fL.2 fun p hp=>by
   cases hb:Nat.beq p.1 k with
   |false=>rfl
   |true=>
    have h1:=jS.2 (show(k,p.2)∈σ.ow by rw[<-cg hb];exact hp);rw[e1]at h1;exact absurd rfl (hJ hfr _ (jS.1 h1))
  have hh':Hd X0 n w0 ⟨kill k σ.sl,σ.ow⟩ g a w:=hh.kill;have hB:=hA ⟨kill k σ.sl,σ.ow⟩ (fun x hx=>by rw[Fa e2];exact ag.op hx) (qo _ _) hfr';refine Oper.wp_mono (fun a' w' ⟨⟨f',h3⟩,_⟩=>⟨f',?_⟩) (vj hB hw hh' Qx);rw[hdst];refine h3.less (fun p=>Iff.rfl) fun u=>?_;show look ((t,.own k)::kill k σ.sl) u=look ((t,.own k)::σ.sl) u;simp only[look];split
  ·rfl
  ·exact iQ (e2 u),by rw[hdst];exact h⟩
theorem Iw{g:FuncId}{x:Operand}{ts:Array TypeId}{d1:D}{k:Nat}{q:Ow}(hg:o.guard=none)(hdst:o.dst=some t)(ht:Nat.blt t n=true)(ho:o.op= .call {callee:=.value (.func g),args:=#[x],argTypes:=ts})(hx:S.op ⟨sl,ow⟩ x=d1)(hf:FnG P g [d1] [] (.own k) [(k,q)])(hk:Nat.blt k 1000000=true)(hfr:ow.all (fun p=>!Nat.beq p.1 k)=true)
  (h:aM P X0 n ops l ⟨(t,.own k)::sl,(k,q)::ow⟩ fs K):aM P X0 n ops (o::l) ⟨sl,ow⟩ (⟨[],[],[],[k],[]⟩::fs) K:=
 Hh hg hdst hk hfr (fun σ he hs hw=>BP hg hdst ht ho (by rw[<-hx];exact he x fb) hf hk hs hw (aJ rfl)) h
section
variable {ks : List Nat} {acc : List FP}
theorem wV{g:FuncId}{x:Operand}{ts:Array TypeId}{d1:D}{k:Nat}{q:Ow}(hg:o.guard=none)(hdst:o.dst=some t)(ht:Nat.blt t n=true)(ho:o.op= .call {callee:=.value (.func g),args:=#[x],argTypes:=ts})(hx:S.op ⟨sl,ow⟩ x=d1)(hf:FnG P g [d1] [] (.own k) [(k,q)])(hk:Nat.blt k 1000000=true)(hfr:ow.all (fun p=>!Nat.beq p.1 k)=true)
 (h:aN P X0 n ops ks l ⟨(t,.own k)::sl,(k,q)::ow⟩ (⟨[],[],[],[k],[]⟩::acc) K):aN P X0 n ops ks (o::l) ⟨sl,ow⟩ acc K:=Ag (fun _ h=>Iw hg hdst ht ho hx hf hk hfr h) h
end
end
end DW
end
section
open Go.RowKit
namespace DW
section
variable {P : Program} {s : S} {o : Oper}
theorem Ie{g:FuncId}{x:Operand}{d:D}(ho:o.op= .makeFunc (.func g) #[] #[x])(hx:s.op x=d)(hs:d.seen=true):bc P o s (.cl g [d]):=fun X f a w base _ _ hh=>by
 have h1:=hh x bu;rw[hx]at h1;have h2:AR X w d (a.eval x):=by cases d<;>first|exact h1|simp[D.seen]at hs
 refine dw (u:=.func (.func g) #[] #[a.eval x]) ?_ ?_
 ·unfold execOp;rw[ho];simp[Instr.makeFunc]
 ·simp only[SR,AR,ATp];exact⟨_,rfl,_,[],rfl,h2,rfl⟩
theorem CU{g:FuncId}{x y:Operand}{ts:Array TypeId}{cs:List D}{d1 r:D}(ho:o.op= .call {callee:=.value y,args:=#[x],argTypes:=ts})(hy:s.op y= .cl g cs)(hx:s.op x=d1)(hs:d1.seen=true)(hf:Go.Proofs.Enters P g/\Fun P g (d1::cs) r)(hr:r.seen=true):bc P o s r:=fun X f a w base hX _ hh=>by
 have h1:=hh x fb;have h2:=hh y fb;rw[hx]at h1;rw[hy]at h2;simp only[SR,AR]at h2;obtain⟨us,h2,h3⟩:=h2;have h4:AR X w d1 (a.eval x):=by cases d1<;>first|exact h1|simp[D.seen]at hs
 have h5:ATp X w (d1::cs) (#[a.eval x]++us).toList:=by
  simp only[ATp];exact⟨a.eval x,us.toList,by simp,h4,h3⟩
 have h6:(execOp a.eval o).run P w= .ok (.enter g (#[a.eval x]++us)) w:=by
  unfold execOp;rw[ho];have:=hf.1 (#[a.eval x]++us) w;simp[resolve,invoke,Deferred.ofValue,h2];simpa using this
 rw[h6];refine⟨rfl,(hf.2 X w _ hX h5).mono fun e w' ⟨u,k1,k2,k3⟩=>⟨u,k1,?_,k3⟩⟩;cases r<;>first|exact k2|simp[D.seen]at hr
theorem Ic{x:Operand}{tt:TypeId}{p:Int}(ho:o.op= .unOp .neg tt x)(hx:s.op x= .sc (.int .i64 p)):bc P o s (.sc (.int .i64 (wrap64 (0-p)))):=fA rfl fun X f w a hs=>by
 have h1:=hs x bu;rw[hx]at h1;simp only[SR,AR]at h1;unfold execOp;rw[ho];simp[h1.1,Op.unary,Op.intArith,IntWalk.i64_left]
theorem d_max{x y:Operand}{ts:Array TypeId}{p q:Int}(ho:o.op= .call {callee:=.builtin .max,args:=#[x,y],argTypes:=ts})(hx:s.op x= .sc (.int .i64 p))(hy:s.op y= .sc (.int .i64 q)):bc P o s (.sc (.int .i64 (if q>p then q else p))):=fA (by split<;>rfl) fun X f w a hs=>by
 have h1:=hs x fb;have h2:=hs y fb;rw[hx]at h1;rw[hy]at h2;simp only[SR,AR]at h1 h2;unfold execOp;rw[ho];simp[resolve,invoke,builtin,h1.1,h2.1,Builtin.max_,Builtin.max2]
end
end DW
end
section
open Go.RowKit
namespace DW
section
variable {P : Program} {s : S} {o : Oper}
theorem AQ{X:Nat->Prop}{w:World}{wd:Nat}{lo:List D}{v:Value}(h:AR X w (.ls wd lo) v)(hne:lo≠[]):∃a n c,v= .slice a n c/\a.isNone=false:=by
 simp only[AR]at h;obtain⟨a,c,e,_,h3⟩:=h;rcases h3 with h|⟨b,o,rfl,_⟩
 ·exact absurd h hne
 ·exact⟨_,_,_,e,rfl⟩
theorem run_eql_slice_nil(w:World)(t e:TypeId)(a:Option Addr)(l c:Nat)(h:P.underlying t=some (.slice e)):(binOp .eql t (.slice a l c) (.slice none 0 0)).run P w= .ok (.bool a.isNone) w:=by
 simp only[binOp];simp[run_equal_slice_nil w t e a l c h]
theorem Ib{x y:Operand}{tt tt':TypeId}{wd:Nat}{lo:List D}(ho:o.op= .binOp .eql tt x y tt')(hx:s.op x= .ls wd lo)(hy:s.op y= .sc (.slice none 0 0))(hne:lo≠[])(hu:P.underlying tt=some (.slice (P.elem tt))):bc P o s (.sc (.bool false)):=fA rfl fun X f w a hs=>by
 have h1:=hs x bu;have h2:=hs y bu;rw[hx]at h1;rw[hy]at h2;obtain⟨q,n,c,e1,hn⟩:=AQ h1 hne;have e2:a.eval y= .slice none 0 0:=h2.1;unfold execOp;rw[ho];have:=run_eql_slice_nil (P:=P) w tt _ q n c hu;simp only[eqGuard];simp[e1,e2,this,hn]
end
set_option maxRecDepth 20000
set_option maxHeartbeats 1000000
end DW
end
section
open Go.RowKit
namespace DW
section
variable {P : Program} {X0 : Nat->Prop} {n : Nat} {sl : List (Nat × D)} {o : Oper} {ops : Array Oper} {l : List Oper} {K : S->Prop} {t : Nat}
theorem Gw{g:FuncId}{x y z:Operand}{ts:Array TypeId}{d2 d3:D}{k k2:Nat}{q q2:Ow}{ow1:List (Nat×Ow)}(hg:o.guard=none)(hdst:o.dst=some t)(ht:Nat.blt t n=true)(ho:o.op= .call {callee:=.value (.func g),args:=#[x,y,z],argTypes:=ts})
  (hx:S.op ⟨sl,(k,q)::ow1⟩ x= .own k) (hy:S.op ⟨sl,(k,q)::ow1⟩ y=d2) (hz:S.op ⟨sl,(k,q)::ow1⟩ z=d3) (hf:FnG P g [.own k,d2,d3] [(k,q)] (.own k2) [(k2,q2)]) (hk2:Nat.blt k2 1000000=true) (hs:noS k2 sl=true)
  (hfr:ow1.all (fun p=>!Nat.beq p.1 k2)=true) (hfk:ow1.all (fun p=>!Nat.beq p.1 k)=true) (h:aL P X0 n ops l K ⟨(t,.own k2)::sl,(k2,q2)::ow1⟩):aL P X0 n ops (o::l) K ⟨sl,(k,q)::ow1⟩:=
 yk (xs:=[x,y,z]) (os:=[(k,q)]) (os':=[(k2,q2)]) ow1 hg hdst ht ho (by rw[<-hx,<-hy,<-hz];rfl) hf
  ⟨fun p hp=>by rw[bq.1 hp];exact bp,fun p hp=>⟨bf _ hp,fun r hr=>by rw[bq.1 hr];exact fun e=>hJ hfk p hp e.symm⟩,fun p hp=>(by
   rw[bq.1 hp];exact .inr ⟨vZ hk2,mT hs,fun r hr=>⟨hJ hfr r hr,fun _ h=>(by rw[vY hk2]at h;cases h)⟩⟩),fun p hp hh=>(by
   rw[bq.1 hp,gw hk2]at hh;cases hh),fun j hj=>⟨_,bq.2 rfl,by simpa[D.is]using hj⟩⟩ h
end
abbrev gN(l:List Int):List D:=l.map zI
set_option maxRecDepth 20000
set_option maxHeartbeats 2000000
theorem C3(l:List Int)(h0:l≠[])(hl:l.length<=1000000)(K:Nat)(hK:hdr K=false):FnG Tryz.prog 175 [dI l] [] (.own K) [(K,⟨3,1,gN l⟩)]:=by
 have hne:l.map zI≠[]:=by simpa using h0
 refine⟨enters_of Tryz.func175 ak rfl,qE.mv (a:=5) ?_ rfl hK⟩;refine xN Tryz.func175 rfl rfl (fun _ hp=>by cases hp) fun X0=>?_;simp only[az];refine mj ?_;refine bD ?_;(refine aL1 rfl rfl rfl (by(first|(apply Ib;(exact rfl);(focus((apply ao;(conv=>lhs;whnf);(first|done|exact rfl))));(exact mb);(focus(first|assumption|(intro h;simp at h;done)|(simp;done)));(kernel_rfl))|(apply d_slqn;(exact rfl);(focus((apply ao;(conv=>lhs;whnf);(first|done|exact rfl))));(exact mb);(kernel_rfl)))) ?_);refine aJ ?_;refine aQ ?_;refine gar ?_;(refine yj (k:=5) (wd:=1) (T:=Tryz.prog.elem 45) rfl rfl rfl rfl ak ak aA aA mz ?_);refine zs3 ?_;refine zs11 ?_;refine cA ?_;exact⟨_,Sh.refl,.own 2 5 rfl rfl,rfl⟩
theorem xS{X:Nat->Prop}{w:World}:∀(l:List Int) (xs:List Value),Els X w 1 (gN l) xs->xs=l.map (Value.int .i64)
 |[],_,h=>h
 |z::l,xs,⟨u,rest,h1,h2,_,_,_,h3⟩=>by
  simp only[AR]at h2;rw[h1,xS l rest h3,h2.1];rfl
theorem Bw{X:Nat->Prop}{w:World}:∀(l:List Int),Els X w 1 (gN l) (l.map (Value.int .i64))
 |[]=>rfl
 |z::l=>⟨_,_,rfl,by simp only[AR];exact⟨rfl,rfl⟩,rfl,rfl,rfl,Bw l⟩
theorem Ci{d:List Int}{cur:Array Value}{m:Nat}(hm:m<=d.length)(hd:d.length<=cur.size):(Sort.putCells (Value.int .i64) 0 d.toArray cur).toList.take m=(d.take m).map (Value.int .i64):=by
 refine qV fun k=>?_;rw[dV,dU,dV];split
 ·next hk=>
  rw[cV];simp only[Sort.putCells,Array.getElem?_mapIdx,iB,bQ,aI,true_and,gM];rw[gI (show k<cur.size by omega),bK,aB aa,bn aa,bK];congr 2;exact getElem!_pos d.toArray k fB
 ·rfl
theorem CS(l:List Int)(i:Nat)(hi:i<l.length)(hl:l.length<=1000000)(K K2:Nat)(hK:hdr K=false)(hK2:hdr K2=false)(hne:K≠K2):FnG Tryz.prog 302 [.own K,zI (i:Nat),zI ((i:Nat)+1)] [(K,⟨3,1,gN l⟩)] (.own K2) [(K2,⟨3,1,gN (l.eraseIdx i)⟩)]:=by
 refine⟨enters_of Tryz.func302 ak rfl,fun X f w vs hX hO hv=>?_⟩;obtain⟨u1,r1,e1,h1,u2,r2,e2,h2,u3,r3,e3,h3,e4⟩:=hv;simp only[SR,AR]at h1 h2 h3;obtain⟨h2,_⟩:=h2;obtain⟨h3,_⟩:=h3;subst e4 e3 e2 h1 h2 h3;obtain⟨hwd,xs,⟨hxl,hsl⟩,hE⟩:=hO.ow _ (bq.2 rfl);have hxs:=xS l xs (hE.pl hK);subst hxs;simp only[cL,kK]at hsl;rcases hsl with⟨_,h⟩|⟨g,cap,cur,ef,_,hg,hc1,hc2,hcs,htk⟩
 ·omega
 have hvs:vs= #[.slice (some ⟨g,0,none⟩) l.length cap,.int .i64 (i:Int),.int .i64 ((i+1:Nat):Int)]:=by
  apply dN.1;rw[e1,ef];rfl
 subst hvs;have hcur:∀j,j<l.length->cur[j]?=some (.int .i64 l[j]!):=fun j hj=>by
  have h4:(cur.toList.take l.length)[j]?=(l.map (Value.int .i64))[j]?:=by rw[htk]
  rw[dV,aB hj,cV,dU,bn hj]at h4;rw[h4,getElem!_pos l j hj];rfl
 have hH:Sort.Holds (Value.int .i64) w g 0 l.toArray:=fun j hj=>by
  have hj':j<l.length:=by simpa using hj
  rw[bQ];refine⟨?_,frozen_of_row _ _ _ _ _ hg⟩;rw[cell_of_row _ _ _ _ _ _ hg,hcur j hj',getElem!_pos l j hj',getElem!_pos l.toArray j hj];rfl
 have hD:=Any.slices_Delete_int Tryz.laysNm223 g 0 cap i (i+1) l w hH hc1 (by unfold maxLen at hc2;omega) aa aa;refine hD.mono ?_;rintro e w' ⟨rfl,q,rfl⟩;have hdl:l.take i++l.drop (i+1)++List.replicate (i+1-i) 0=l.eraseIdx i++[0]:=by
  rw[<-uX,show i+1-i=1 by omega];rfl
 rw[hdl];have hel:(l.eraseIdx i).length=l.length-1:=jq hi;obtain⟨d,hd⟩:∃d,d=l.eraseIdx i++[0]:=⟨_,rfl⟩;have hdln:d.length=l.length:=by rw[hd,cT,hel,lL];omega
 have hdt:d.take (l.length-1)=l.eraseIdx i:=by rw[hd,vb aa,jh aa]
 rw[<-hd];have hcsz:l.length<=cur.size:=by rw[hcs];exact hc1
 have hsz:(Sort.putRow (Value.int .i64) (Sort.ahead w q) g 0 d.toArray).heap.size=w.heap.size:=by simp[Sort.putRow,Sort.mapBlock,Sort.ahead]
 have hoth:∀b,b≠g->(Sort.putRow (Value.int .i64) (Sort.ahead w q) g 0 d.toArray).heap[b]?=w.heap[b]?:=fun b hb=>by
  simp[Sort.putRow,Sort.mapBlock,Sort.ahead,uT,Ne.symm hb]
 have hnew:(Sort.putRow (Value.int .i64) (Sort.ahead w q) g 0 d.toArray).heap[g]?=some (.cells (Sort.putCells (Value.int .i64) 0 d.toArray cur) 3 (0,0)):=by
  simp[Sort.putRow,Sort.mapBlock,Sort.ahead,uT,hg,Sort.onCells]
 have hbg:blk f [(K,(⟨3,1,gN l⟩:Ow))] g:=⟨_,bq.2 rfl,by rw[ef];rfl⟩;have hown:∀b,blk (fun j=>if j=K2 then .slice (some ⟨g,0,none⟩) (l.length-1) cap else f j) [(K2,(⟨3,1,gN (l.eraseIdx i)⟩:Ow))] b->b=g:=fun b ⟨p,hp,e⟩=>by
  rw[bq.1 hp]at e;simp only[if_true,Value.ownBlock,af]at e;exact e.symm
 have hl1:l.length-(i+1-i)=l.length-1:=by omega
 rw[hl1];refine⟨_,fun j=>if j=K2 then .slice (some ⟨g,0,none⟩) (l.length-1) cap else f j,rfl,⟨rfl,rfl,rfl,Nat.le_of_eq hsz.symm,fun b hb hn=>hoth b fun e=>hn (e▸hbg)⟩,⟨fun p hp=>?_,fun b hb n hn=>?_,fun p hp p' hp' hn=>absurd (by rw[bq.1 hp,bq.1 hp']) hn,fun p hp p' hp' _=>by rw[bq.1 hp,bq.1 hp'],fun b hb h=>hO.xd b hb (hown b h▸hbg)⟩,fun b hb=>.inl (hown b hb▸hbg),fun p hp=>?_,by simp only[SR,if_true]⟩
 ·rw[bq.1 hp];refine⟨Nat.zero_lt_one,(l.eraseIdx i).map (Value.int .i64),⟨by simp,.inr ⟨g,cap,_,?_,aI _,hnew,?_,hc2,?_,?_⟩⟩,EE.of (Bw _) hK2⟩
  ·simp only[if_true,cL,hel]
  ·simp only[cL,hel];omega
  ·rw[kK,<-hcs];simp[Sort.putCells]
  ·simp only[cL,hel,kK];rw[Ci aa aa,hdt]
 ·rw[hown b hb,cell_of_row _ _ _ _ _ _ hnew]at hn;simp only[Sort.putCells,Array.getElem?_mapIdx,iB]at hn;rw[hcur 0 aa,bK,aB aa]at hn;cases hn
 ·rw[bq.1 hp];exact aj hne
end DW
end
section
namespace Mx
def minor(M:Mat)(r c:Nat):Mat:=(M.eraseIdx r).map fun l=>l.eraseIdx c
theorem zO(l:List Int)(c j:Nat):(l.eraseIdx c).getD j 0=l.getD (skip c j) 0:=by
 rw[aF,aF,uW];unfold skip;split<;>rfl
theorem Cr(M:Mat)(r c i:Nat):rw (minor M r c) i=(rw M (skip r i)).eraseIdx c:=by
 unfold rw minor;rw[aF,aF,dU,uW];unfold skip;split
 ·cases M[i]?<;>simp
 ·cases M[i+1]?<;>simp
theorem qi(M:Mat)(r c i j:Nat):at' (minor M r c) i j=at' M (skip r i) (skip c j):=by
 unfold at';rw[Cr,zO]
theorem kv{X:Nat}{M:Mat}(h:Bd X M)(r c:Nat):Bd X (minor M r c):=fun i j=>by
 rw[qi];exact h _ _
end Mx
end
section
namespace Mx
def wy:Nat->Nat
 |0=>1
 |n+1=>(n+1)*wy n
theorem lU:∀(n:Nat) (f:Nat->Int) (X:Nat),(∀k,k<n->(f k).natAbs<=X)->(sm n f).natAbs<=n*X
 |0,_,_,_=>by simp[sm]
 |n+1,f,X,h=>by
  have h1:=lU n f X fun k hk=>h k aa;have h2:=h n aa;show(sm n f+f n).natAbs<=_;rw[Nat.succ_mul];omega
theorem lV(k:Nat):(sg k).natAbs=1:=by unfold sg;split<;>rfl
theorem Am{B:Nat}:∀(n:Nat) (f:Nat->Nat->Int),(∀i j,(f i j).natAbs<=B)->(D n f).natAbs<=wy n*B^n
 |0,_,_=>by simp[D,wy]
 |n+1,f,h=>by
  show(sm (n+1) fun k=>sg k*f 0 k*D n (fun i j=>f (i+1) (skip k j))).natAbs<=_;refine aU (lU _ _ (B*(wy n*B^n)) fun k _=>?_) ?_
  ·rw[ka,ka,lV,cB];exact gR (h 0 k) (Am n _ fun i j=>h _ _)
  ·show _<=(n+1)*wy n*B^(n+1);rw[dH,bs (B^n) B,<-cv,cv,cv,ur B];exact ah _
theorem D_b3{f:Nat->Nat->Int}(h:∀i j,(f i j).natAbs<=20000){n:Nat}(hn:n<=3):(D n f).natAbs<=48000000000000:=by
 refine aU (Am n f h) ?_;have:n=0\/n=1\/n=2\/n=3:=by omega
 rcases this with rfl|rfl|rfl|rfl<;>decide
def mn(g:Mat)(rs cs:List Nat):Int:=D rs.length (fun i j=>at' g (rs.getD i 0) (cs.getD j 0))
theorem nj(l:List Nat)(c j:Nat):(l.eraseIdx c).getD j 0=l.getD (skip c j) 0:=by
 simp only[aF,uW];unfold skip;split<;>rfl
theorem Fq(g:Mat)(r:Nat)(rs cs:List Nat)(k:Nat):D rs.length (fun i j=>at' g ((r::rs).getD (i+1) 0) (cs.getD (skip k j) 0))=mn g rs (cs.eraseIdx k):=by
 unfold mn;refine jX _ _ _ fun i j _ _=>?_;rw[nj,uu]
theorem Fv(g:Mat)(n:Nat):mn g (List.range n) (List.range n)=D n (at' g):=by
 unfold mn;rw[gF];refine jX _ _ _ fun i j hi hj=>?_;rw[aF,aF,lJ hi,lJ hj];rfl
theorem Co(g:Mat){n i k:Nat}(hi:i<n):mn g ((List.range n).eraseIdx i) ((List.range n).eraseIdx k)=D (n-1) (at' (minor g i k)):=by
 unfold mn;rw[jq (by rw[gF];exact hi),gF];refine jX _ _ _ fun a b ha hb=>?_;have ha2:skip i a<n:=by unfold skip;split<;>omega
 have hb2:skip k b<n:=by unfold skip;split<;>omega
 rw[nj,nj,qi,aF,aF,lJ ha2,lJ hb2];rfl
theorem mn_bd{g:Mat}(h:Bd 20000 g)(rs cs:List Nat)(hr:rs.length<=3):(mn g rs cs).natAbs<=48000000000000:=D_b3 (fun _ _=>h _ _) hr
end Mx
end
section
namespace Mx
def cmb(a b:Nat):Nat:=a/Nat.gcd a b*b
theorem Gh{a b T:Nat}(ha:a∣T)(hb:b∣T):cmb a b∣T:=by
 unfold cmb;rw[show a/Nat.gcd a b*b=Nat.lcm a b by unfold Nat.lcm;exact(Nat.div_mul_right_comm (nH a b) b)];exact Nat.lcm_dvd ha hb
theorem Gg{a b:Nat}(ha:0<a)(hb:0<b):0<cmb a b:=by
 unfold cmb;exact mA (Nat.div_pos (jo ha (nH a b)) (lG b ha)) hb
def fR(op:Nat->Nat->Nat)(f:Nat->Nat)(s:Nat):Nat->Nat
 |0=>s
 |k+1=>op (fR op f s k) (f k)
def fS(op:Nat->Nat->Nat)(f:Nat->Nat->Nat)(m:Nat->Nat)(s:Nat):Nat->Nat
 |0=>s
 |i+1=>fR op (f i) (fS op f m s i) (m i)
theorem wA{f:Nat->Nat}{T:Nat}(h:∀k,f k∣T){s:Nat}(hs:s∣T):∀k,fR cmb f s k∣T
 |0=>hs
 |k+1=>Gh (wA h hs k) (h k)
theorem wz{f:Nat->Nat}(h:∀k,0<f k){s:Nat}(hs:0<s):∀k,0<fR cmb f s k
 |0=>hs
 |k+1=>Gg (wz h hs k) (h k)
theorem Bv{f:Nat->Nat->Nat}{m:Nat->Nat}{T:Nat}(h:∀i k,f i k∣T){s:Nat}(hs:s∣T):∀i,fS cmb f m s i∣T
 |0=>hs
 |i+1=>wA (h i) (Bv h hs i) _
theorem Bu{f:Nat->Nat->Nat}{m:Nat->Nat}(h:∀i k,0<f i k){s:Nat}(hs:0<s):∀i,0<fS cmb f m s i
 |0=>hs
 |i+1=>wz (h i) (Bu h hs i) _
theorem xL{f:Nat->Nat}{d s:Nat}:∀k,d∣fR Nat.gcd f s k↔d∣s/\∀j,j<k->d∣f j
 |0=>⟨fun h=>⟨h,fun j hj=>absurd hj (nG j)⟩,fun h=>h.1⟩
 |k+1=>by
  show d∣Nat.gcd (fR Nat.gcd f s k) (f k)↔_;rw[Nat.dvd_gcd_iff,xL k];constructor
  ·rintro⟨⟨h1,h2⟩,h3⟩;refine⟨h1,fun j hj=>?_⟩;by_cases e:j=k
   ·rw[e];exact h3
   ·exact h2 j aa
  ·rintro⟨h1,h2⟩;exact⟨⟨h1,fun j hj=>h2 j aa⟩,h2 k aa⟩
theorem oy{f:Nat->Nat->Nat}{m:Nat->Nat}{d s:Nat}:∀i,d∣fS Nat.gcd f m s i↔d∣s/\∀a,a<i->∀j,j<m a->d∣f a j
 |0=>⟨fun h=>⟨h,fun a ha=>absurd ha (nG a)⟩,fun h=>h.1⟩
 |i+1=>by
  show d∣fR Nat.gcd (f i) (fS Nat.gcd f m s i) (m i)↔_;rw[xL,oy i];constructor
  ·rintro⟨⟨h1,h2⟩,h3⟩;refine⟨h1,fun a ha=>?_⟩;by_cases e:a=i
   ·rw[e];exact h3
   ·exact h2 a aa
  ·rintro⟨h1,h2⟩;exact⟨⟨h1,fun a ha=>h2 a aa⟩,h2 i aa⟩
theorem FX{f h:Nat->Nat->Nat}{n:Nat}(hs:∀i k,i<n->k<n->f i k=f k i)(hd:∀i,i<n->h i 0=f i i)(hl:∀i k,i<n->k<i->h i (k+1)=f i k):fS Nat.gcd h (fun i=>i+1) 0 n=fS Nat.gcd f (fun _=>n) 0 n:=by
 refine Nat.dvd_antisymm ?_ ?_
 ·rw[oy];have h1:=(oy (f:=h) (m:=fun i=>i+1) (s:=0) n).1 (Nat.dvd_refl _);refine⟨Nat.dvd_zero _,fun a ha j hj=>?_⟩;rcases jH a j with e|e|e
  ·rw[hs a j ha hj,<-hl j a hj e];exact h1.2 j hj (a+1) aa
  ·subst e;rw[<-hd a ha];exact h1.2 a ha 0 aa
  ·rw[<-hl a j ha e];exact h1.2 a ha (j+1) aa
 ·rw[oy];have h1:=(oy (f:=f) (m:=fun _=>n) (s:=0) n).1 (Nat.dvd_refl _);refine⟨Nat.dvd_zero _,fun a ha j hj=>?_⟩
  cases j with
  |zero=>rw[hd a ha];exact h1.2 a ha a ha
  |succ j=>rw[hl a j ha aa];exact h1.2 a ha j aa
end Mx
end
section
open Go.RowKit
namespace DW
theorem xh{α:Type}(l:List α)(x:α)(c:Nat):(l++[x]).eraseIdx c=if l.length=c then l.eraseIdx c else l.eraseIdx c++[x]:=by
 induction l generalizing c with
 |nil=>cases c<;>simp
 |cons y l ih=>
  cases c with
  |zero=>simp
  |succ c=>
   simp only[oQ,List.eraseIdx_cons_succ,ih,gj,Nat.add_right_cancel_iff];split<;>rfl
theorem Fu(m:Mx.Mat)(l:List Int)(r c:Nat):Mx.minor (m++[l]) r c=if m.length=r then Mx.minor m r c else Mx.minor m r c++[l.eraseIdx c]:=by
 unfold Mx.minor;rw[xh];split
 ·rfl
 ·rw[eU];rfl
theorem Hk(m:Mx.Mat)(r c:Nat):(Mx.minor m r c).length<=m.length:=by unfold Mx.minor;rw[cL];exact(List.eraseIdx_sublist m r).length_le
def dtm(n:Nat)(f:Nat->Nat->Int)(k:Nat):Int:=Mx.sg k*f 0 k*Mx.D n (fun i j=>f (i+1) (Mx.skip k j))
theorem uC{M:Mx.Mat}{n r k:Nat}(hl:M.length=n+1)(hM:Mx.Rc (n+1) M)(hr:r<n+1)(hk:k<n+1):(Mx.minor M r k).length=n/\Mx.Rc n (Mx.minor M r k):=by
 unfold Mx.minor;refine⟨by rw[cL,jq aa];omega,fun q hq=>?_⟩;obtain⟨x,hx,rfl⟩:=mC.1 hq;have:=hM x (qQ hx);rw[jq aa];omega
theorem mn_D(M:Mx.Mat)(n k:Nat):Mx.D n (Mx.at' (Mx.minor M 0 k))=Mx.D n (fun i j=>Mx.at' M (i+1) (Mx.skip k j)):=Mx.jX n _ _ fun i j _ _=>by
 rw[Mx.qi];rfl
set_option maxRecDepth 20000
set_option maxHeartbeats 2000000
theorem vI(m:Mx.Mat)(r c:Nat)(hm:m.length<=1000000)(hR:∀l∈m,c<l.length/\l.length<=1000000):Fn Tryz.prog 206 [dM m,zI r,zI c] (dM (Mx.minor m r c)):=by
 refine aH Tryz.func206 ak rfl rfl rfl fun X0=>?_;simp only[az];refine mj ?_;refine qI ?_;refine zs1 ?_;refine bE (pB (t:=7) (k:=7) (T:=45) (wd:=1) uP rfl rfl mz) ?_;refine zs1 ?_;refine jF ?_;refine zs1 ?_
 (refine bE (aD (sl':=[(0,dM m),(1,zI r),(2,zI c),(7,.own 7),(10,dM m),(11,zI m.length),(12,zI 0)]) (ow':=[(7,⟨45,1,[]⟩)]) aS aR) ?_)
 refine bj (fun q s=>∃k,k<=m.length/\q=m.length-k/\s=⟨[(0,dM m),(1,zI r),(2,zI c),(7,.own 7),(10,dM m),(11,zI m.length),(12,zI (k:Nat))],[(7,⟨45,1,(Mx.minor (m.take k) r c).map dI⟩)]⟩) (m:=m.length) ⟨0,aI _,rfl,by simp[Mx.minor]⟩ fun q s hs=>?_;obtain⟨k,hk,rfl,rfl⟩:=hs;by_cases hkl:k<m.length
 ·obtain⟨x,hx⟩:=get_some hkl;obtain⟨hc,hxl⟩:=hR x (bU hx);have hsn:Mx.minor (m.take (k+1)) r c=if k=r then Mx.minor (m.take k) r c else Mx.minor (m.take k) r c++[x.eraseIdx c]:=by
   rw[eV hx,Fu,ba,eA hk]
  have hWl:(Mx.minor (m.take k) r c).length<=m.length:=by
   have:=Hk (m.take k) r c;rw[ba]at this;omega
  obtain⟨W,hW⟩:∃W,W=Mx.minor (m.take k) r c:=⟨_,rfl⟩;rw[<-hW]at hsn hWl;rw[<-hW];clear hW hR;by_cases hkr:k=r
  ·rw[aB hkr]at hsn;refine gg ?_;refine cN ?_;refine nD ?_;refine aJ ?_;refine aQ ?_;refine dp ?_;simp only[nx];exact⟨m.length-(k+1),_,by omega,(aD (sl':=[(0,dM m),(1,zI r),(2,zI c),(7,.own 7),(10,dM m),(11,zI m.length),(12,zI ((k+1:Nat):Int))]) (ow':=[(7,⟨45,1,W.map dI⟩)]) aS aR),k+1,by omega,rfl,by rw[hsn]⟩
  ·rw[aj hkr]at hsn;have hx0:x≠[]:=fun e=>by rw[e]at hc;simp at hc
   have hWs:(W++[x.eraseIdx c]).map dI=W.map dI++[.ls 1 (gN (x.eraseIdx c))]:=by rw[eU];rfl
   refine gg ?_;refine cN ?_;refine nD ?_;refine aJ ?_;refine bP ?_;(refine gar ?_;refine zs3 ?_;refine zs3 ?_;(refine BP rfl rfl rfl rfl fe (C3 x hx0 hxl 22 rfl) aA aA aA ?_);refine zs3 ?_;refine zs3 ?_;refine yA ?_;(refine Gw rfl rfl rfl rfl fe fe fe (CS x c hc hxl 22 26 rfl rfl aE) aA aA aA aA ?_);refine aL_sh (ic (k:=26) iW pO pN) ?_;refine uK ?_;refine yz ?_;refine zs8 ?_;refine aJ ?_);refine zs1 ?_;refine dp ?_;simp only[nx];exact⟨m.length-(k+1),_,by omega,(aD (sl':=[(0,dM m),(1,zI r),(2,zI c),(7,.own 7),(10,dM m),(11,zI m.length),(12,zI ((k+1:Nat):Int))]) (ow':=[(7,⟨45,1,W.map dI++[.ls 1 (gN (x.eraseIdx c))]⟩)]) aS aR),k+1,by omega,rfl,by rw[hsn,hWs]⟩
 ·obtain rfl:k=m.length:=by omega
  rw[kJ];refine eO ?_;refine bE (ic (k:=7) iW pO pN) ?_;refine zs1 ?_;refine dD ?_;exact⟨_,Sh.refl,.one (.tmp 6) _ rfl (.tmp 6 rfl)⟩
theorem jR{a b:Int}{A B:Nat}(ha:a.natAbs<=A)(hb:b.natAbs<=B):(a*b).natAbs<=A*B:=by
 rw[ka];exact gR ha hb
theorem xB{M:Mx.Mat}(hb:Mx.Bd 20000 M){n k:Nat}(hn:n<=3):(dtm n (Mx.at' M) k).natAbs<=960000000000000000:=by
 unfold dtm;refine aU (jR (A:=20000) (B:=48000000000000) ?_ (Mx.D_b3 (fun _ _=>hb _ _) hn)) aE;rw[ka,Mx.lV,cB];exact hb 0 k
theorem G3{M:Mx.Mat}(hb:Mx.Bd 20000 M){n k:Nat}(hn:n<=3)(hk:k<=4):(Mx.sm k (dtm n (Mx.at' M))).natAbs<=3840000000000000000:=by
 refine aU (Mx.lU k _ _ fun l _=>xB hb hn) ?_;exact aU (cJ _ hk) aE
theorem nX:∀(n:Nat) (M:Mx.Mat),n<=4->M.length=n->Mx.Rc n M->Mx.Bd 20000 M->Fn Tryz.prog 167 [dM M] (zI (Mx.D n (Mx.at' M)))
 |0,M,hn,hl,hM,hb=>by
  obtain rfl:M=[]:=iy hl;refine aH Tryz.func167 ak rfl rfl rfl fun X0=>?_;simp only[az];refine dC ?_;refine uh ?_;refine dF ?_;exact⟨_,Sh.refl,.one (.tmp 2) _ rfl (.tmp 2 rfl)⟩
 |n+1,M,hn,hl,hM,hb=>by
  have hSB:=fun k (hk:k<=4)=>G3 hb (n:=n) aa hk;have hTB:=fun k=>xB hb (n:=n) (k:=k) aa;have IH:=fun k (hk:k<n+1)=>nX n (Mx.minor M 0 k) aa (uC hl hM (Nat.succ_pos n) hk).1 (uC hl hM (Nat.succ_pos n) hk).2 ((Mx.kv hb 0 k));have MI:=fun k (hk:k<n+1)=>vI M 0 k aa (fun l hl=>by have:=hM l hl;omega);obtain⟨R,hR⟩:=get_some (m:=M) (k:=0) aa;have hRl:=hM R (bU hR);have hc0:(0:Int)=((0:Nat):Int):=rfl;have hDD:Mx.D (n+1) (Mx.at' M)=Mx.sm (n+1) (dtm n (Mx.at' M)):=rfl;rw[hDD];clear hDD;refine aH Tryz.func167 ak rfl rfl rfl fun X0=>?_;simp only[az];refine dC ?_;refine uh ?_;refine aQ ?_;refine ug ?_;refine zs1 ?_;refine bD ?_;(refine aL1 rfl rfl rfl zb7 ?_);(refine aL1 rfl rfl rfl zb0 ?_);refine tZ ?_
  (refine bE (aD (sl':=[(0,dM M),(3,zI 0),(4,zI 1),(12,dI R),(13,zI R.length),(14,zI 0)]) (ow':=[]) aS aR) ?_)
  refine bj (fun q s=>∃k,k<=n+1/\q=n+1-k/\s=⟨[(0,dM M),(3,zI (Mx.sm k (dtm n (Mx.at' M)))),(4,zI (Mx.sg k)),(12,dI R),(13,zI R.length),(14,zI (k:Nat))],[]⟩) (m:=n+1) ⟨0,aI _,rfl,rfl⟩ fun q s hs=>?_;obtain⟨k,hk,rfl,rfl⟩:=hs;by_cases hkn:k<n+1
  ·obtain⟨x,hx⟩:=get_some (m:=R) (k:=k) aa;have ex:Mx.at' M 0 k=x:=by unfold Mx.at';rw[Mx.cC hR,aF,hx];rfl
   have hS1:Mx.sm (k+1) (dtm n (Mx.at' M))=Mx.sm k (dtm n (Mx.at' M))+dtm n (Mx.at' M) k:=rfl;have hg1:=Mx.xw k;have bg:=Mx.lV k;have bS:=hSB k aa;have bS1:=hSB (k+1) aa;have bT:=hTB k;have IHk:=IH k hkn;rw[mn_D]at IHk;have MIk:=MI k hkn;have bX:=hb 0 k;have hdt:dtm n (Mx.at' M) k=Mx.sg k*x*Mx.D n (fun i j=>Mx.at' M (i+1) (Mx.skip k j)):=by rw[<-ex];rfl
   rw[ex]at bX;obtain⟨S,hS⟩:∃S,S=Mx.sm k (dtm n (Mx.at' M)):=⟨_,rfl⟩;obtain⟨Dm,hDm⟩:∃Dm,Dm=Mx.D n (fun i j=>Mx.at' M (i+1) (Mx.skip k j)):=⟨_,rfl⟩;obtain⟨G,hG⟩:∃G,G=Mx.sg k:=⟨_,rfl⟩;rw[<-hG]at hg1 bg hdt;rw[<-hDm]at IHk hdt;rw[hdt]at bT hS1;rw[hS1]at bS1;rw[<-hS]at hS1 bS bS1;have bGX:(G*x).natAbs<=20000:=by rw[ka,bg,cB];exact bX
   rw[<-hS,<-hG];clear hS hDm hG IH MI hSB hTB hb ex hdt;refine gg ?_;refine cN ?_;refine zs3 ?_;refine yx ?_;refine zs3 ?_;refine zs3 ?_;(refine aL1 rfl rfl rfl (by(apply tj;(exact rfl);(focus((apply ao;(conv=>lhs;whnf);(first|done|exact rfl))));(exact ct);(focus((apply ao;(conv=>lhs;whnf);(first|done|exact rfl))));(exact rfl);(exact rfl);(exact rfl);(assumption);(exact rfl))) ?_);refine dZ ?_;refine yx ?_;refine zs25 ?_;refine cA ?_;refine bD ?_;(refine aL1 rfl rfl rfl (by(apply Er;(exact rfl);(focus((apply ao;(conv=>lhs;whnf);(first|done|exact rfl))));(omega))) ?_);refine cA ?_;refine dp ?_;simp only[nx];exact⟨n+1-(k+1),_,by omega,(aD (sl':=[(0,dM M),(3,zI (S+G*x*Dm)),(4,zI (-G)),(12,dI R),(13,zI R.length),(14,zI ((k+1:Nat):Int))]) (ow':=[]) aS aR),k+1,by omega,rfl,by rw[hS1,hg1]⟩
  ·obtain rfl:k=n+1:=by omega
   generalize Mx.sm (n+1) (dtm n (Mx.at' M))=S;generalize Mx.sg (n+1)=G;refine eO ?_;refine dD ?_;exact⟨_,Sh.refl,.one (.tmp 2) _ rfl (.tmp 2 rfl)⟩
def crn(g:Mx.Mat)(m:Nat):Mx.Mat:=(g.take m).map fun r=>r.take m
theorem Ge{g:Mx.Mat}{m:Nat}(h:m<=g.length):(crn g m).length=m:=by unfold crn;rw[cL,ba];omega
theorem Ij{g:Mx.Mat}{m n:Nat}(h:m<=n)(hR:Mx.Rc n g):Mx.Rc m (crn g m):=fun r hr=>by
 obtain⟨x,hx,rfl⟩:=mC.1 hr;have:=hR x (zf hx);rw[ba];omega
theorem Il{g:Mx.Mat}{m i j:Nat}(h:m<=g.length)(hi:i<m)(hj:j<m):Mx.at' (crn g m) i j=Mx.at' g i j:=by
 obtain⟨r,hr⟩:=get_some (m:=g) (k:=i) aa;have h1:(crn g m)[i]?=some (r.take m):=by
  unfold crn;rw[dU,jI hi,hr];rfl
 unfold Mx.at';rw[Mx.cC h1,Mx.cC hr,aF,aF,jI hj]
theorem Ik{g:Mx.Mat}{m B:Nat}(hb:Mx.Bd B g):Mx.Bd B (crn g m):=fun i j=>by
 have h1:Mx.at' (crn g m) i j=if i<m/\j<m then Mx.at' g i j else 0:=by
  unfold Mx.at' Mx.rw crn;simp only[aF,dU,dV];by_cases hi:i<m
  ·rw[aB hi]
   cases g[i]? with
   |none=>simp
   |some r=>
    simp only[bK,kd,dV];by_cases hj:j<m
    ·rw[aB hj,aB ⟨hi,hj⟩]
    ·rw[aj hj,aj (fun h=>hj h.2)];rfl
  ·rw[aj hi,aj (fun h=>hi h.1)];rfl
 rw[h1];split
 ·exact hb i j
 ·exact aI _
theorem C1(g:Mx.Mat)(m n:Nat)(hl:g.length=n)(hn:n<=4)(hmn:m<=n)(hR:Mx.Rc n g):Fn Tryz.prog 168 [dM g,zI m] (dM (crn g m)):=by
 refine aH Tryz.func168 ak rfl rfl rfl fun X0=>?_;simp only[az];have hgd:(g.map dI).take m=(g.take m).map dI:=lF.symm;have hml:(g.map dI).length=g.length:=cL ..;refine mj ?_;refine qI ?_;refine zs1 ?_;refine bE (pB (t:=5) (k:=5) (T:=45) (wd:=1) uP rfl rfl mz) ?_;refine zs1 ?_;refine cN ?_;refine zs26 ?_;refine tZ ?_;rw[hgd];have hgl:(g.take m).length=m:=by rw[ba];omega
 obtain⟨V,hV⟩:∃V,V=g.take m:=⟨_,rfl⟩;have hLD:crn g m=V.map fun r=>r.take m:=by rw[hV];rfl
 rw[hLD];rw[<-hV]at hgl;rw[<-hV];have hVr:∀r∈V,r.length=n:=fun r hr=>by rw[hV]at hr;exact hR r (zf hr)
 clear hgd hV hLD hml
 (refine bE (aD (sl':=[(0,dM g),(1,zI m),(5,.own 5),(10,dM V),(11,zI (V.length:Nat)),(12,zI 0)]) (ow':=[(5,⟨45,1,[]⟩)]) aS aR) ?_)
 refine bj (fun rr s=>∃q,q<=V.length/\rr=V.length-q/\s=⟨[(0,dM g),(1,zI m),(5,.own 5),(10,dM V),(11,zI (V.length:Nat)),(12,zI (q:Nat))],[(5,⟨45,1,((V.take q).map fun r=>r.take m).map dI⟩)]⟩) (m:=V.length) ⟨0,aI _,rfl,rfl⟩ fun rr s hs=>?_;obtain⟨q,hq,rfl,rfl⟩:=hs;by_cases hql:q<V.length
 ·obtain⟨r,hr⟩:=get_some hql;have hrl:=hVr r (bU hr);have hrd:(r.map zI).take m=(r.take m).map zI:=lF.symm;have hml:(r.map zI).length=r.length:=cL ..;have hfl:((V.take q).map fun r=>r.take m).length<=1000000:=by rw[cL,ba];omega
  have hsn:((V.take (q+1)).map fun r=>r.take m).map dI=((V.take q).map fun r=>r.take m).map dI++[.ls 1 ((r.map zI).take m)]:=by
   rw[eV hr,eU,eU,hrd];rfl
  obtain⟨F,hF⟩:∃F,F=(V.take q).map fun r=>r.take m:=⟨_,rfl⟩;rw[<-hF]at hsn hfl;rw[<-hF];clear hF hrd hVr;refine uc ?_;refine gar ?_;refine yF ?_;refine ed ?_;refine cA ?_;refine cN ?_;refine zs3 ?_;refine zs26 ?_;refine uK ?_;refine yz ?_;refine cA ?_;refine dp ?_;simp only[nx];exact⟨V.length-(q+1),_,by omega,(aD (sl':=[(0,dM g),(1,zI m),(5,.own 5),(10,dM V),(11,zI (V.length:Nat)),(12,zI ((q+1:Nat):Int))]) (ow':=[(5,⟨45,1,F.map dI++[.ls 1 ((r.map zI).take m)]⟩)]) aS aR),q+1,by omega,rfl,by rw[hsn]⟩
 ·obtain rfl:q=V.length:=by omega
  rw[kJ];refine eO ?_;refine bE (ic (k:=5) iW pO pN) ?_;refine zs1 ?_;refine dD ?_;exact⟨_,Sh.refl,.one (.tmp 4) _ rfl (.tmp 4 rfl)⟩
end DW
end
section
open Go.RowKit
namespace DW
abbrev qF(n:Int)(g:Mx.Mat):D:=.st [zI n,dM g]
abbrev gJ(l:List Int):List D:=l.map zI
def nn(l:List Nat):List Int:=l.map fun i:Nat=>(i:Int)
theorem oc(l:List Nat):(nn l).length=l.length:=by unfold nn;rw[cL]
theorem Hb{l:List Nat}{k c:Nat}(h:l[k]?=some c):(nn l)[k]?=some (c:Int):=by
 unfold nn;rw[dU,h];rfl
theorem Fh(m:Nat):nn (List.range (m+1))=nn (List.range m)++[(m:Int)]:=by
 unfold nn;rw[List.range_succ,eU];rfl
def mtm(g:Mx.Mat)(r:Nat)(rs cs:List Nat)(k:Nat):Int:=Mx.sg k*Mx.at' g r (cs.getD k 0)*Mx.mn g rs (cs.eraseIdx k)
theorem Fw(g:Mx.Mat)(r:Nat)(rs cs:List Nat):Mx.mn g (r::rs) cs=Mx.sm (rs.length+1) (mtm g r rs cs):=by
 show Mx.sm (rs.length+1) _=_;refine Mx.pY _ _ _ fun k _=>?_;show Mx.sg k*Mx.at' g r (cs.getD k 0)*Mx.D rs.length (fun i j=>Mx.at' g ((r::rs).getD (i+1) 0) (cs.getD (Mx.skip k j) 0))=_;rw[Mx.Fq];rfl
theorem xF{g:Mx.Mat}(hb:Mx.Bd 20000 g){r:Nat}{rs cs:List Nat}{k:Nat}(hn:rs.length<=3):(mtm g r rs cs k).natAbs<=960000000000000000:=by
 unfold mtm;refine aU (jR (A:=20000) (B:=48000000000000) ?_ (Mx.mn_bd hb _ _ hn)) aE;rw[ka,Mx.lV,cB];exact hb r _
theorem He{g:Mx.Mat}(hb:Mx.Bd 20000 g){r:Nat}{rs cs:List Nat}{k:Nat}(hn:rs.length<=3)(hk:k<=4):(Mx.sm k (mtm g r rs cs)).natAbs<=3840000000000000000:=by
 refine aU (Mx.lU k _ _ fun l _=>xF hb hn) ?_;exact aU (cJ _ hk) aE
set_option maxRecDepth 20000
set_option maxHeartbeats 2000000
theorem pH(l:List Int)(hl:l.length<=1000000)(K:Nat)(hK:hdr K=false):FnG Tryz.prog 79 [dI l] [] (.own K) [(K,⟨3,1,gJ l⟩)]:=by
 refine⟨enters_of Tryz.func79 ak rfl,qE.mv (a:=3) ?_ rfl hK⟩;refine xN Tryz.func79 rfl rfl (fun _ hp=>by cases hp) fun X0=>?_;simp only[az];refine mj ?_;refine gar ?_;refine zs27 ?_;refine zs3 ?_;refine zs11 ?_;refine cA ?_;exact⟨_,Sh.refl,.own 2 3 rfl rfl,rfl⟩
theorem qe{g:Mx.Mat}{n:Nat}(hg:g.length=n)(hR:Mx.Rc n g)(hb:Mx.Bd 20000 g):∀(rs cs:List Nat),rs.length<=4->cs.length=rs.length->(∀r∈rs,r<n)->(∀c∈cs,c<n)->Fn Tryz.prog 283 [dM g,dI (nn rs),dI (nn cs)] (zI (Mx.mn g rs cs))
 |[],cs,_,_,_,_=>by
  have hz:(nn []).length=0:=rfl;have hm1:Mx.mn g [] cs=1:=rfl;rw[hm1];generalize nn []=R at*;generalize nn cs=C;refine aH Tryz.func283 ak rfl rfl rfl fun X0=>?_;simp only[az];refine dC ?_;refine uh ?_;refine dF ?_;exact⟨_,Sh.refl,.one (.tmp 6) _ rfl (.tmp 6 rfl)⟩
 |r::rs,cs,h4,hcs,hrs,hcn=>by
  rw[gj]at h4 hcs;have hr:=hrs r bp;have h3:rs.length<=3:=by omega
  have IH:∀k,k<rs.length+1->Fn Tryz.prog 283 [dM g,.ls 1 (((nn (r::rs)).map zI).drop 1),.ls 1 (gJ ((nn cs).take k)++((nn cs).map zI).drop (k+1))] (zI (Mx.mn g rs (cs.eraseIdx k))):=fun k hk=>by
   have:=qe hg hR hb rs (cs.eraseIdx k) aa (by rw[jq aa];omega) (fun x hx=>hrs x (bf _ hx)) (fun x hx=>hcn x (qQ hx));have e:nn (cs.eraseIdx k)=(nn cs).take k++(nn cs).drop (k+1):=by
    unfold nn;rw[uX,eU,lF,qP]
   have e2:(nn (cs.eraseIdx k)).map zI=gJ ((nn cs).take k)++((nn cs).map zI).drop (k+1):=by rw[e,eU,qP]
   rw[<-e2];exact this
  have CP:∀k,FnG Tryz.prog 79 [.ls 1 (((nn cs).map zI).take k)] [] (.own 23) [(23,⟨3,1,gJ ((nn cs).take k)⟩)]:=fun k=>by
   have:=pH ((nn cs).take k) (by rw[ba,oc];omega) 23 rfl;rw[<-lF];exact this
  have hSB:=fun k (hk:k<=4)=>He hb (r:=r) (rs:=rs) (cs:=cs) (k:=k) h3 hk;have hTB:=fun k=>xF hb (r:=r) (rs:=rs) (cs:=cs) (k:=k) h3;have hC:∀k,k<rs.length+1->∃c,c<n/\cs.getD k 0=c/\(nn cs)[k]?=some (c:Int):=fun k hk=>by
   obtain⟨c,hc⟩:=get_some (m:=cs) (k:=k) aa;exact⟨c,hcn c (bU hc),by rw[aF,hc];rfl,Hb hc⟩
  have hR0:(nn (r::rs))[0]?=some (r:Int):=rfl;have hRl:(nn (r::rs)).length=rs.length+1:=oc _;have hCl:(nn cs).length=rs.length+1:=by rw[oc];exact hcs
  obtain⟨x,hx⟩:=get_some (m:=g) (k:=r) aa;have hxl:=hR x (bU hx);have hxa:∀c,Mx.at' g r c=x.getD c 0:=fun c=>by unfold Mx.at';rw[Mx.cC hx]
  have hc0:(0:Int)=((0:Nat):Int):=rfl;rw[Fw];obtain⟨M,hM⟩:∃M,M=rs.length+1:=⟨_,rfl⟩;rw[<-hM]at IH hC hRl hCl;rw[<-hM];have hM4:M<=4:=by omega
  obtain⟨T,hT⟩:∃T,T=mtm g r rs cs:=⟨_,rfl⟩;have hTk:∀k,T k=Mx.sg k*Mx.at' g r (cs.getD k 0)*Mx.mn g rs (cs.eraseIdx k):=fun k=>by rw[hT];rfl
  rw[<-hT]at hSB hTB;rw[<-hT];generalize nn (r::rs)=R at*;generalize nn cs=C at*;have hb0:=fun c=>hb r c;clear hb hR hrs hcn hcs h4 h3 hT;refine aH Tryz.func283 ak rfl rfl rfl fun X0=>?_;simp only[az];refine dC ?_;refine uh ?_;refine aQ ?_;refine ug ?_;refine dC ?_
  (refine bE (aD (sl':=[(0,dM g),(1,dI R),(2,dI C),(7,zI 0),(8,zI 1),(9,zI 0)]) (ow':=[]) aS aR) ?_)
  refine bj (fun q s=>∃k,k<=M/\q=M-k/\s=⟨[(0,dM g),(1,dI R),(2,dI C),(7,zI (Mx.sm k T)),(8,zI (Mx.sg k)),(9,zI (k:Nat))],[]⟩) (m:=M) ⟨0,aI _,rfl,rfl⟩ fun q s hs=>?_;obtain⟨k,hk,rfl,rfl⟩:=hs;by_cases hkl:k<M
  ·obtain⟨c,hcl,hcD,hcC⟩:=hC k hkl;obtain⟨y,hy⟩:=get_some (m:=x) (k:=c) aa;have ey:Mx.at' g r c=y:=by rw[hxa,aF,hy];rfl
   have hS1:Mx.sm (k+1) T=Mx.sm k T+T k:=rfl;have hg1:=Mx.xw k;have bg:=Mx.lV k;have bS:=hSB k aa;have bS1:=hSB (k+1) aa;have bT:=hTB k;have IHk:=IH k hkl;have CPk:=CP k;have bX:=hb0 c;have hdt:=hTk k;rw[hcD,ey]at hdt;rw[ey]at bX;obtain⟨S,hS⟩:∃S,S=Mx.sm k T:=⟨_,rfl⟩;obtain⟨Dm,hDm⟩:∃Dm,Dm=Mx.mn g rs (cs.eraseIdx k):=⟨_,rfl⟩;obtain⟨G,hG⟩:∃G,G=Mx.sg k:=⟨_,rfl⟩;rw[<-hG]at hg1 bg hdt;rw[<-hDm]at IHk hdt;rw[hdt]at bT hS1;rw[hS1]at bS1;rw[<-hS]at hS1 bS bS1;have bGX:(G*y).natAbs<=20000:=by rw[ka,bg,cB];exact bX
   have hgl:(gJ (C.take k)).length<=4:=by unfold gJ;rw[cL,ba];omega
   rw[<-hS,<-hG];clear hS hDm hG IH CP hSB hTB hb0 ey hxa hTk hdt hcD hC;refine zs1 ?_;refine oL ?_;refine bP ?_;(refine BL [23,1000000023] ak (by(apply gy;(focus((apply gy;(exact tN);(focus((repeat(first|exact gY|(apply fU;(exact rfl))|(apply gZ;(exact rfl)))))))));(focus((repeat(first|exact gY|(apply fU;(exact rfl))|(apply gZ;(exact rfl)))))))) ?_);refine jy ?_;refine jy ?_;refine zs29 ?_;(refine wV rfl rfl rfl rfl fe (CPk) aA aA ?_);refine jy ?_;refine jy ?_;refine zs30 ?_;refine zs31 ?_;(refine wW (k:=23) rfl rfl rfl rfl fe fe iW aA uR ak ak zb51 zb39 ?_);refine zs32 ?_;(refine BM ak ?_);refine zs1 ?_;((first|(apply aG 22;(focus kernel_rfl);(decide+kernel))|(apply aG 21;(focus kernel_rfl);(decide+kernel))|(apply aG 20;(focus kernel_rfl);(decide+kernel))|(apply aG 19;(focus kernel_rfl);(decide+kernel))|(apply aG 18;(focus kernel_rfl);(decide+kernel))|(apply aG 17;(focus kernel_rfl);(decide+kernel))|(apply aG 16;(focus kernel_rfl);(decide+kernel))|(apply aG 15;(focus kernel_rfl);(decide+kernel)));simp only[iC,fM,js,gi]);refine dY ?_;refine dY ?_;refine dY ?_;refine dY ?_;(first|refine fm rfl rfl rfl aA zb7 aA aA ?_|((try refine br ?_);refine aL1 rfl rfl rfl zb7 ?_));refine yw ?_;refine zs35 ?_;refine yw ?_;refine dY ?_;refine dY ?_;refine zs35 ?_;refine yw ?_;refine zs35 ?_;refine yw ?_;refine se ?_;refine dY ?_;refine dY ?_;(first|refine fm rfl rfl rfl aA zb23 aA aA ?_|((try refine br ?_);refine aL1 rfl rfl rfl zb23 ?_));refine dY ?_;(first|refine fm rfl rfl rfl aA uS aA aA ?_|((try refine br ?_);refine aL1 rfl rfl rfl uS ?_));refine se ?_;refine zs37 ?_;refine sd ?_;refine pK ?_;refine zs1 ?_;refine yM ?_;refine zs1 ?_;refine kH ?_;refine zs1 ?_;simp only[nx];exact⟨M-(k+1),_,by omega,(aD (sl':=[(0,dM g),(1,dI R),(2,dI C),(7,zI (S+G*y*Dm)),(8,zI (-G)),(9,zI ((k+1:Nat):Int))]) (ow':=[]) aS aR),k+1,by omega,rfl,by rw[hS1,hg1]⟩
  ·obtain rfl:k=M:=by omega
   generalize Mx.sm k T=S;generalize Mx.sg k=G;refine zs1 ?_;refine oL ?_;refine aQ ?_;refine dD ?_;exact⟨_,Sh.refl,.one (.tmp 6) _ rfl (.tmp 6 rfl)⟩
theorem vG(n:Nat)(hn:n<=1000):Fn Tryz.prog 284 [zI n] (dI (nn (List.range n))):=by
 refine aH Tryz.func284 ak rfl rfl rfl fun X0=>?_;simp only[az];refine mj ?_;refine qI ?_;refine dC ?_;refine bE (pB (t:=3) (k:=3) (T:=3) (wd:=1) uP rfl rfl mz) ?_
 (refine bE (aD (sl':=[(0,zI n),(3,.own 3),(4,zI 0)]) (ow':=[(3,⟨3,1,[]⟩)]) aS aR) ?_)
 refine bj (fun q s=>∃k,k<=n/\q=n-k/\s=⟨[(0,zI n),(3,.own 3),(4,zI (k:Nat))],[(3,⟨3,1,(nn (List.range k)).map zI⟩)]⟩) (m:=n) ⟨0,aI _,rfl,rfl⟩ fun q s hs=>?_;obtain⟨k,hk,rfl,rfl⟩:=hs;by_cases hkl:k<n
 ·have hsn:(nn (List.range (k+1))).map zI=(nn (List.range k)).map zI++[zI (k:Nat)]:=by rw[Fh,eU];rfl
  have hil:(nn (List.range k)).length=k:=by rw[oc,gF]
  generalize nn (List.range k)=I at*;refine zs1 ?_;refine mu ?_;refine bP ?_;refine cN ?_;refine uK ?_;refine yz ?_;refine cA ?_;refine kH ?_;refine zs1 ?_;simp only[nx];exact⟨n-(k+1),_,by omega,(aD (sl':=[(0,zI n),(3,.own 3),(4,zI ((k+1:Nat):Int))]) (ow':=[(3,⟨3,1,I.map zI++[zI (k:Nat)]⟩)]) aS aR),k+1,by omega,rfl,by rw[hsn]⟩
 ·obtain rfl:k=n:=by omega
  generalize nn (List.range k)=I;refine zs1 ?_;refine mu ?_;refine aQ ?_;refine bE (ic (k:=3) iW pO pN) ?_;refine zs1 ?_;refine dD ?_;exact⟨_,Sh.refl,.one (.tmp 2) _ rfl (.tmp 2 rfl)⟩
theorem xx{g:Mx.Mat}{n:Nat}(hg:g.length=n)(hR:Mx.Rc n g)(hb:Mx.Bd 20000 g)(hn:n<=4){m:Nat}(hm:m<=n):Fn Tryz.prog 169 [dM g,zI m] (zI (Mx.D m (Mx.at' g))):=by
 have FI:=vG m aa;have MI:=qe hg hR hb (List.range m) (List.range m) (by rw[gF];omega) rfl (fun r hr=>by have:=lH.1 hr;omega) (fun r hr=>by have:=lH.1 hr;omega);rw[Mx.Fv]at MI;generalize nn (List.range m)=I at*;generalize Mx.D m (Mx.at' g)=d at*;refine aH Tryz.func169 ak rfl rfl rfl fun X0=>?_;simp only[az];refine dC ?_;refine cN ?_;refine dZ ?_;refine zs3 ?_;refine dZ ?_;refine sb ?_;refine cA ?_;exact⟨_,Sh.refl,.one (.tmp 4) _ rfl (.tmp 4 rfl)⟩
end DW
end
section
open Go.ChangeShapes Go.WideShapes Go.ChangeAt Go.RowKit Go.Joins Go.Deep
theorem DW.ar_qF{X:Nat->Prop}{w:World}{n:Int}{m:Mx.Mat}{u:Value}(h:DW.AR X w (DW.dM m) u):DW.AR X w (DW.qF n m) (.agg #[.int .i64 n,u]):=by
 simp only[DW.dM,DW.AR]at h;simp only[DW.qF,DW.AR,DW.ASt];have h2:=h;obtain⟨a,c,rfl,_⟩:=h2;exact⟨_,rfl,.int .i64 n,_,rfl,⟨rfl,rfl⟩,rfl,_,[],rfl,h,rfl,rfl⟩
set_option maxRecDepth 100000 in
theorem Ba{H:Type}{enc:TypeId×Value->H}{w:World}{base b0:Nat}{spare:Nat->Bool}{held:Bool}{r:Reach}{v:Value}{d:DataW H}{p:List MemPlace}
  (hv:Value.okWide Tryz.prog w r b0 79 v) (h:DataW.Trod enc Tryz.prog w base spare held 79 v d p):∃(n:Int) (m:List (List Int)),I64 n/\DW.AR (fun _=>False) w (DW.qF n m) v:=by
 obtain⟨v0,v1,y0,y1,n,rfl,_,_,g0,g1⟩:=open_agg2 Tryz.underlying79 ak ak hv h;obtain⟨a0,e0,_,w0⟩:=DataW.trod_int Tryz.underlying3 g0;simp at e0;subst e0;obtain⟨m,hm⟩:=Hm g1;exact⟨a0,m,bounds_i64 w0,DW.ar_qF hm⟩
end
section
open Go.ChangeShapes Go.WideShapes Go.ChangeAt Go.RowKit Go.Joins Go.Deep
set_option maxRecDepth 100000 in
theorem E3{H:Type}{enc:TypeId×Value->H}{w:World}{base:Nat}{spare:Nat->Bool}{held:Bool}{v:Value}{fuel:Nat}{x:DataW H×List MemPlace}
  (hf:DataW.trod enc Tryz.prog w base spare held fuel 45 [v]=some x):∃l:List Int,DW.AR (fun _=>False) w (DW.dI l) v:=by
 rcases open_ints Tryz.underlying45 Tryz.underlying3 tU hf with⟨h,_⟩|⟨a',len',cap',zs,h,_,hl',_,hz,_,hcell,_⟩
 ·simp at h;subst h;refine⟨[],?_⟩;simp only[DW.dI,DW.AR];exact⟨none,0,rfl,ah _,.inl rfl⟩
 ·simp at h;subst h;have hzl:len'<=zs.length:=by rw[hz];split<;>omega
  have hlen:(zs.take len').length=len':=by rw[ba];omega
  have hA:=DW.ye (w:=w) (a:=a') (l:=zs.take len') (cap:=cap') aa (fun k hk=>by
   rw[hlen]at hk;rw[hcell k aa,aF,aF,dV,aB hk])
  rw[hlen]at hA;exact⟨zs.take len',hA⟩
set_option maxRecDepth 100000 in
theorem A9{H:Type}{enc:TypeId×Value->H}{w:World}{base b0:Nat}{spare:Nat->Bool}{held:Bool}{r:Reach}{v:Value}{d:DataW H}{p:List MemPlace}
  (hv:Value.okWide Tryz.prog w r b0 45 v) (h:DataW.Trod enc Tryz.prog w base spare held 45 v d p):∃l:List Int,DW.AR (fun _=>False) w (DW.dI l) v:=by
 obtain⟨a0,len0,cap0,rfl⟩:=okWide_slice Tryz.underlying45 hv;obtain⟨fuel,hf⟩:=h;exact E3 hf
end
section
open Go.RowKit
namespace DW
section
variable {P : Program} {X0 : Nat->Prop} {n : Nat} {Q : Exit->S->Prop} {s : S} {sl : List (Nat × D)} {ow : List (Nat × Ow)} {o : Oper} {ops : Array Oper} {l : List Oper} {K : S->Prop} {t : Nat} {d : D}
theorem vq{X:Nat->Prop}{f:Nat->Value}{w:World}:SR X f w (.tp []) undef:=by
 simp only[SR,AR,ATp];exact⟨#[],rfl,rfl⟩
theorem BZ{X:Nat->Prop}{f:Nat->Value}{w:World}{v:Value}(h:SR X f w (.tp []) v):v=undef:=by
 simp only[SR,AR,ATp]at h;obtain⟨vs,rfl,h⟩:=h;have:vs= #[]:=dN.1 h;rw[this];rfl
theorem zm{a:Act}{j u:Nat}{c:Bool}(hg:o.guard=some (j,c))(hj:(ops[j]?).bind (·.dst)=some u)(h:a.tmps.getD u undef=undef):Region.wanted o (yielded ops a.tmps)=false:=by
 unfold Region.wanted;rw[hg];simp only;unfold yielded;rw[hj];simp only[eB];rw[bZ]at h
 cases h6:a.tmps[u]? with
 |none=>rfl
 |some v=>
  rw[h6]at h;simp only[kd]at h;subst h;rfl
theorem aLs0{j u:Nat}{c:Bool}(hg:o.guard=some (j,c))(hdst:o.dst=some t)(ht:Nat.blt t n=true)(hj:(ops[j]?).bind (·.dst)=some u)(hc:look sl u= .sc (.bool (!c)))(h:aL P X0 n ops l K ⟨(t,.tp [])::sl,ow⟩):aL P X0 n ops (o::l) K ⟨sl,ow⟩:=fun w0 f a w Q hd hq=>by
 have ht':ck n o=true:=by unfold ck;rw[hdst];simpa[aX]using ht
 have h':aL P X0 n ops l K ((⟨sl,ow⟩:S).put o.dst (.tp [])):=by rw[hdst];exact h
 have hi:HI (XO X0 ⟨sl,ow⟩ f) n w f Own3.Fs.none [] ⟨sl,ow⟩ a:=⟨hd.sz,hd.df,fun t _=>hd.sl t,fun t u e=>by simp[dK]at e⟩;have hw:=hi.want (ops:=ops) (o:=o) (b:=false) (by simp only[cP,hg];exact⟨u,!c,hj,rfl,hc,by cases c<;>rfl⟩);refine wpList_step fun K' hK=>?_;rw[aj (by rw[hw];simp)];exact hK _ _ (h' w0 f _ w Q (hd.put vq (eG ht')) hq)
theorem aLsu{j u:Nat}{c:Bool}(hg:o.guard=some (j,c))(hdst:o.dst=some t)(ht:Nat.blt t n=true)(hj:(ops[j]?).bind (·.dst)=some u)(hc:look sl u= .tp [])(h:aL P X0 n ops l K ⟨(t,.tp [])::sl,ow⟩):aL P X0 n ops (o::l) K ⟨sl,ow⟩:=fun w0 f a w Q hd hq=>by
 have ht':ck n o=true:=by unfold ck;rw[hdst];simpa[aX]using ht
 have h':aL P X0 n ops l K ((⟨sl,ow⟩:S).put o.dst (.tp [])):=by rw[hdst];exact h
 have h1:=hd.sl u;rw[show(⟨sl,ow⟩:S).gt u= .tp []from hc]at h1;have hw:=zm (ops:=ops) hg hj (BZ h1);refine wpList_step fun K' hK=>?_;rw[aj (by rw[hw];simp)];exact hK _ _ (h' w0 f _ w Q (hd.put vq (eG ht')) hq)
end
end DW
end
end Go.Proofs.YtepdigdijecgpaaGreat
