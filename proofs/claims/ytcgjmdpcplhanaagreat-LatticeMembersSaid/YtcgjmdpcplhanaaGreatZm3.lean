/- Lemmas for the law: H3 E1 E2 E3 E4 -/
import Derived.Test.YtcgjmdpcplhanaaGreatZm2
namespace Go.Proofs.YtcgjmdpcplhanaaGreat
section
theorem aa{p:Prop}(h:p:=by exact rfl):p:=h
theorem zb4{p:Prop}(h:p:=by(first|(apply ig;(focus(exact rfl));(focus((apply ao;(conv=>lhs;whnf);(first|done|exact rfl))));(focus((apply ao;(conv=>lhs;whnf);(first|done|exact rfl))));(focus(kernel_rfl));(focus(kernel_rfl));(focus(omega));(focus((first|(apply get_map;assumption)|(apply get_own;assumption)))))|(apply eE;(focus(exact rfl));(focus((apply ao;(conv=>lhs;whnf);(first|done|exact rfl))));(focus((apply ao;(conv=>lhs;whnf);(first|done|exact rfl))));(focus((repeat(first|exact List.mem_cons_self|refine List.mem_cons_of_mem _ ?_))));(focus(kernel_rfl));(focus(kernel_rfl));(focus(first|omega|(simp;omega)));(focus(first|(apply iG;assumption)|exact rfl))))):p:=h
theorem dQ{p q:Prop}(h:q)(f:Wq q→p:=by(intro hW;((first|refine cw rfl rfl rfl aa zb4 aa aa ?_|((try refine aD ?_);refine aL1 rfl rfl rfl zb4 ?_)));exact hW.out)):p:=f ⟨h⟩
theorem bB{p:Prop}(h:p:=by(repeat(first|exact pq|(apply nC;(focus(exact rfl)))|(apply pw;(focus(exact rfl)))))):p:=h
theorem tN{p:Prop}(h:p:=by(apply mV;(focus(exact rfl));(focus((apply ao;(conv=>lhs;whnf);(first|done|exact rfl)))))):p:=h
theorem zs6{p q:Prop}(h:q)(f:Wq q→p:=by(intro hW;(refine aL1 rfl rfl rfl tN ?_);exact hW.out)):p:=f ⟨h⟩
theorem zb22{p:Prop}(h:p:=by(first|(apply Fc;(focus(exact rfl));(focus((apply ao;(conv=>lhs;whnf);(first|done|exact rfl))));(focus(exact bu));(focus(omega)))|(apply bQ;(focus(exact rfl));(focus((apply ao;(conv=>lhs;whnf);(first|done|exact rfl))));(focus(exact bu));(focus(exact rfl))))):p:=h
theorem zs19{p q:Prop}(h:q)(f:Wq q→p:=by(intro hW;(refine aL1 rfl rfl rfl zb22 ?_);exact hW.out)):p:=f ⟨h⟩
theorem l9{p:Prop}(h:p:=by(apply Bh;(focus(exact rfl));(focus((apply ao;(conv=>lhs;whnf);(first|done|exact rfl)))))):p:=h
theorem zs4{p q:Prop}(h:q)(f:Wq q→p:=by(intro hW;(refine aL1 rfl rfl rfl l9 ?_);exact hW.out)):p:=f ⟨h⟩
theorem nZ{p q:Prop}(h:q)(f:Wq q→p:=by(intro hW;((refine gar ?_;refine zs4 ?_;refine zs19 ?_;refine zs6 ?_;refine ae ?_));exact hW.out)):p:=f ⟨h⟩
theorem aU{p:Prop}(h:p:=by(repeat(first|exact List.mem_cons_self|refine List.mem_cons_of_mem _ ?_))):p:=h
theorem zb21{p:Prop}(h:p:=by(first|(apply bQ;(focus(exact rfl));(focus((apply ao;(conv=>lhs;whnf);(first|done|exact rfl))));(focus(exact bu));(focus(exact rfl)))|(apply Fh;(focus(exact rfl));(focus((apply ao;(conv=>lhs;whnf);(first|done|exact rfl))));(focus(exact bu));(focus(kernel_rfl))))):p:=h
theorem bj{p:Prop}(h:p:=by(apply aK;(conv=>lhs;whnf);(first|done|exact rfl|(apply aG;(first|(apply decide_eq_true;omega)|(apply decide_eq_false;omega)|assumption|(simp;done)))))):p:=h
theorem xZ{p q:Prop}(h:q)(f:Wq q→p:=by(intro hW;((first|(refine aLs rfl rfl rfl rfl ?_ ?_;(focus(apply aK;(conv=>lhs;whnf);(first|done|exact rfl|(apply aG;(first|(apply decide_eq_true;omega)|(apply decide_eq_false;omega)|assumption|(simp;done)))))))|refine aLw rfl rfl rfl rfl bj zb21 ?_));exact hW.out)):p:=f ⟨h⟩
theorem cf{p:Prop}(h:p:=by(first|exact ed|exact dY|exact ea|exact wd_pt|exact rfl)):p:=h
theorem zs34{p q:Prop}(h:q)(f:Wq q→p:=by(intro hW;((refine eF (k:=2) (z:=(.agg #[.bool false,.slice none 0 0])) (d:=(.nm 0)) rfl rfl rfl rfl rfl af aa aa cf aa aa bB ?_));exact hW.out)):p:=f ⟨h⟩
theorem av{p q:Prop}(h:q)(f:Wq q→p:=by(intro hW;((apply ke;(focus(first|(apply ao;(conv=>lhs;whnf);(first|done|exact rfl))|with_reducible exact bu|with_reducible exact fD|with_reducible exact ou|exact op_zero));(focus(first|with_reducible rfl|(apply decide_eq_true;omega)|assumption|(simp<;>omega)))));exact hW.out)):p:=f ⟨h⟩
theorem zs8{p q:Prop}(h:q)(f:Wq q→p:=by(intro hW;((first|(refine aLs rfl rfl rfl rfl ?_ ?_;(focus(apply aK;(conv=>lhs;whnf);(first|done|exact rfl|(apply aG;(first|(apply decide_eq_true;omega)|(apply decide_eq_false;omega)|assumption|(simp;done)))))))|refine aLw rfl rfl rfl rfl bj l9 ?_));exact hW.out)):p:=f ⟨h⟩
theorem bf{p:Prop}(h:p:=by(apply ao;(conv=>lhs;whnf);(first|done|exact rfl))):p:=h
theorem oY{p:Prop}(h:p:=by(repeat(first|exact FA|apply FB|(apply BJ;(focus(exact rfl)))))):p:=h
theorem o3{p:Prop}(h:p:=by first|exact rfl|(apply uy;intro _;exact rfl)|(apply Ge;apply uy;intro _;exact rfl)|(apply nw_drop;apply uy;intro _;exact rfl)|(simp[D.nw];done)):p:=h
theorem tF{p q:Prop}(h:q)(f:Wq q→p:=by(intro hW;((refine kj rfl rfl rfl rfl bf bf aU aa o3 af af (by(simp only[List.length_map,List.length_cons,List.length_nil];omega)) bB oY ?_));exact hW.out)):p:=f ⟨h⟩
theorem zb23{p:Prop}(h:p:=by(apply Fg;(focus(exact rfl));(focus((apply ao;(conv=>lhs;whnf);(first|done|exact rfl))));(focus(exact rfl));(focus((first|exact ed|exact dY|exact ea|exact wd_pt|exact rfl)));(focus(kernel_rfl));(focus(kernel_rfl));(focus(exact rfl));(focus(exact rfl)))):p:=h
theorem jk{p q:Prop}(h:q)(f:Wq q→p:=by(intro hW;(refine aL1 rfl rfl rfl zb23 ?_);exact hW.out)):p:=f ⟨h⟩
theorem pP{p q:Prop}(h:q)(f:Wq q→p:=by(intro hW;((refine gar ?_;refine zs4 ?_;refine zs4 ?_;refine jk ?_;refine tF ?_;refine zs6 ?_;refine ae ?_));exact hW.out)):p:=f ⟨h⟩
theorem o4{p:Prop}(h:p:=by(first|(apply y6;(focus(exact rfl));(focus((apply ao;(conv=>lhs;whnf);(first|done|exact rfl))));(focus(kernel_rfl));(focus(kernel_rfl)))|(apply mU;(focus(exact rfl));(focus((apply ao;(conv=>lhs;whnf);(first|done|exact rfl))));(focus(kernel_rfl));(focus(exact rfl));(focus(kernel_rfl))))):p:=h
theorem zs26{p q:Prop}(h:q)(f:Wq q→p:=by(intro hW;((first|refine cw rfl rfl rfl aa o4 aa aa ?_|((try refine aD ?_);refine aL1 rfl rfl rfl o4 ?_)));exact hW.out)):p:=f ⟨h⟩
theorem zb2{p:Prop}(h:p:=by(first|(apply Iz;(focus(exact rfl));(focus((apply ao;(conv=>lhs;whnf);(first|done|exact rfl))));(focus(kernel_rfl)))|(apply y8;(focus(exact rfl));(focus((apply ao;(conv=>lhs;whnf);(first|done|exact rfl))));(focus((repeat(first|exact List.mem_cons_self|refine List.mem_cons_of_mem _ ?_))));(focus(kernel_rfl)))|(apply d_len;(focus(exact rfl));(focus((apply ao;(conv=>lhs;whnf);(first|done|exact rfl))));(focus(kernel_rfl)))|(apply d_len_own;(focus(exact rfl));(focus((apply ao;(conv=>lhs;whnf);(first|done|exact rfl))));(focus((repeat(first|exact List.mem_cons_self|refine List.mem_cons_of_mem _ ?_))));(focus(kernel_rfl)))|(apply d_len0;(focus(exact rfl));(focus((apply ao;(conv=>lhs;whnf);(first|done|exact rfl))));(focus(kernel_rfl))))):p:=h
theorem zs5{p q:Prop}(h:q)(f:Wq q→p:=by(intro hW;(refine aL1 rfl rfl rfl zb2 ?_);exact hW.out)):p:=f ⟨h⟩
theorem zb11{p:Prop}(h:p:=by(first|(apply bQ;(focus(exact rfl));(focus((apply ao;(conv=>lhs;whnf);(first|done|exact rfl))));(focus((apply ao;(conv=>lhs;whnf);(first|done|exact rfl))));(focus(exact rfl)))|(apply Fe;(focus(exact rfl));(focus((apply ao;(conv=>lhs;whnf);(first|done|exact rfl))));(focus((apply ao;(conv=>lhs;whnf);(first|done|exact rfl))));(focus(kernel_rfl))))):p:=h
theorem zs53{p q:Prop}(h:q)(f:Wq q→p:=by(intro hW;(refine aL1 rfl rfl rfl zb11 ?_);exact hW.out)):p:=f ⟨h⟩
theorem ta{p q:Prop}(h:q)(f:Wq q→p:=by(intro hW;((refine gar ?_;refine zs4 ?_;refine zs5 ?_;refine zs4 ?_;refine zs5 ?_;refine zs53 ?_;refine ae ?_));exact hW.out)):p:=f ⟨h⟩
theorem cV{p q:Prop}(h:q)(f:Wq q→p:=by(intro hW;((try refine aD ?_);refine ae ?_);exact hW.out)):p:=f ⟨h⟩
theorem xU{p q:Prop}(h:q)(f:Wq q→p:=by(intro hW;((refine gar ?_;refine zs4 ?_;refine zs5 ?_;refine zs19 ?_;refine zs6 ?_;refine ae ?_));exact hW.out)):p:=f ⟨h⟩
theorem zb9{p:Prop}(h:p:=by(first|(apply Iw;(focus(exact rfl));(focus((apply ao;(conv=>lhs;whnf);(first|done|exact rfl))));(focus(exact bu));(focus(exact rfl));(focus(exact rfl)))|(apply d_remP;(focus(exact rfl));(focus((apply ao;(conv=>lhs;whnf);(first|done|exact rfl))));(focus(exact bu));(focus(omega)))|(apply Bf;(focus(exact rfl));(focus((apply ao;(conv=>lhs;whnf);(first|done|exact rfl))));(focus(exact bu));(focus(first|omega|decide))))):p:=h
theorem zs10{p q:Prop}(h:q)(f:Wq q→p:=by(intro hW;((first|(refine aLs rfl rfl rfl rfl ?_ ?_;(focus(apply aK;(conv=>lhs;whnf);(first|done|exact rfl|(apply aG;(first|(apply decide_eq_true;omega)|(apply decide_eq_false;omega)|assumption|(simp;done)))))))|refine aLw rfl rfl rfl rfl bj zb4 ?_));exact hW.out)):p:=f ⟨h⟩
theorem zb13{p:Prop}(h:p:=by(first|(apply Fi;(focus(exact rfl));(focus((apply ao;(conv=>lhs;whnf);(first|done|exact rfl))));(focus((apply ao;(conv=>lhs;whnf);(first|done|exact rfl))));(focus(omega)))|(apply bQ;(focus(exact rfl));(focus((apply ao;(conv=>lhs;whnf);(first|done|exact rfl))));(focus((apply ao;(conv=>lhs;whnf);(first|done|exact rfl))));(focus(exact rfl))))):p:=h
theorem m7{p q:Prop}(h:q)(f:Wq q→p:=by(intro hW;(refine aL1 rfl rfl rfl zb13 ?_);exact hW.out)):p:=f ⟨h⟩
theorem zs2{p q:Prop}(h:q)(f:Wq q→p:=by(intro hW;(first|refine Dc ?_|refine GP ?_|refine GQ ?_|refine IG ?_|((simp only[nx,inB,ite_true,ite_false,↓reduceIte,Nat.reduceEqDiff,reduceCtorEq]);apply_assumption-exfalso));exact hW.out)):p:=f ⟨h⟩
theorem zb1{p:Prop}(h:p:=by(first|(apply qJ;(focus(exact rfl));(focus((apply ao;(conv=>lhs;whnf);(first|done|exact rfl))));(focus(exact rfl));(focus((first|exact ed|exact dY|exact ea|exact wd_pt|exact rfl)));(focus(exact rfl));(focus(kernel_rfl));(focus(kernel_rfl)))|(apply ik;(focus(exact rfl));(focus((apply ao;(conv=>lhs;whnf);(first|done|exact rfl))));(focus((repeat(first|exact List.mem_cons_self|refine List.mem_cons_of_mem _ ?_))));(focus(exact gB));(focus(exact rfl));(focus(exact rfl));(focus((first|exact ed|exact dY|exact ea|exact wd_pt|exact rfl)));(focus(exact rfl));(focus(kernel_rfl));(focus(kernel_rfl)))|(apply jb;(focus(exact rfl));(focus((apply ao;(conv=>lhs;whnf);(first|done|exact rfl))));(focus((repeat(first|exact List.mem_cons_self|refine List.mem_cons_of_mem _ ?_))));(focus(exact rfl));(focus((first|exact gB|(apply mL;assumption)|assumption|exact rfl)));(focus(exact rfl));(focus((first|exact ed|exact dY|exact ea|exact wd_pt|exact rfl)));(focus(exact rfl));(focus(kernel_rfl));(focus(kernel_rfl))))):p:=h
theorem aJ{p q:Prop}(h:q)(f:Wq q→p:=by(intro hW;(refine aL1 rfl rfl rfl zb1 ?_);exact hW.out)):p:=f ⟨h⟩
theorem yi{p:Prop}(h:p:=by(apply bQ;(focus(exact rfl));(focus((apply ao;(conv=>lhs;whnf);(first|done|exact rfl))));(focus((apply ao;(conv=>lhs;whnf);(first|done|exact rfl))));(focus(exact rfl)))):p:=h
theorem jn{p q:Prop}(h:q)(f:Wq q→p:=by(intro hW;(refine aL1 rfl rfl rfl yi ?_);exact hW.out)):p:=f ⟨h⟩
theorem jo{p q:Prop}(h:q)(f:Wq q→p:=by(intro hW;(refine aL1 rfl rfl rfl o4 ?_);exact hW.out)):p:=f ⟨h⟩
theorem gI{p q:Prop}(h:q)(f:Wq q→p:=by(intro hW;((refine gar ?_;refine zs4 ?_;refine jo ?_;refine aJ ?_;refine zs5 ?_;refine jn ?_;refine ae ?_));exact hW.out)):p:=f ⟨h⟩
theorem yh{p:Prop}(h:p:=by(apply CY;(focus(exact rfl));(focus((apply ao;(conv=>lhs;whnf);(first|done|exact rfl)))))):p:=h
theorem m9{p:Prop}(h:p:=by(apply fH;(focus(exact rfl));(focus((apply ao;(conv=>lhs;whnf);(first|done|exact rfl))));(focus((apply ao;(conv=>lhs;whnf);(first|done|exact rfl))));(focus(exact rfl));(focus(exact rfl));(focus(assumption));(focus(exact rfl)))):p:=h
theorem gG{p q:Prop}(h:q)(f:Wq q→p:=by(intro hW;((first|refine cw rfl rfl rfl aa m9 aa aa ?_|((try refine aD ?_);refine aL1 rfl rfl rfl m9 ?_)));exact hW.out)):p:=f ⟨h⟩
theorem zb8{p:Prop}(h:p:=by(first|(apply Ix;(focus(exact rfl));(focus((apply ao;(conv=>lhs;whnf);(first|done|exact rfl))));(focus(exact bu));(focus(exact rfl));(focus(exact rfl));(focus(apply n6;(try simp only[]);omega)))|(apply d_quoP;(focus(exact rfl));(focus((apply ao;(conv=>lhs;whnf);(first|done|exact rfl))));(focus(exact bu));(focus(omega)))|(apply d_quo;(focus(exact rfl));(focus((apply ao;(conv=>lhs;whnf);(first|done|exact rfl))));(focus(exact bu));(focus(omega)))|(apply Bg;(focus(exact rfl));(focus((apply ao;(conv=>lhs;whnf);(first|done|exact rfl))));(focus(exact bu));(focus(first|omega|decide))))):p:=h
theorem zs35{p q:Prop}(h:q)(f:Wq q→p:=by(intro hW;((first|(apply ak 5;(focus kernel_rfl);(focus(decide+kernel)))|(apply ak 4;(focus kernel_rfl);(focus(decide+kernel)))|(apply ak 3;(focus kernel_rfl);(focus(decide+kernel)))|(apply ak 2;(focus kernel_rfl);(focus(decide+kernel)))|(apply ak 1;(focus kernel_rfl);(focus(decide+kernel))));simp only[List.take_succ_cons,List.take_zero,List.drop_succ_cons,List.drop_zero]);exact hW.out)):p:=f ⟨h⟩
theorem zb0{p:Prop}(h:p:=by(first|(apply qJ;(focus(exact rfl));(focus((apply ao;(conv=>lhs;whnf);(first|done|exact rfl))));(focus(exact rfl));(focus((first|exact ed|exact dY|exact ea|exact wd_pt|exact rfl)));(focus(exact rfl));(focus(kernel_rfl));(focus(kernel_rfl)))|(apply ik;(focus(exact rfl));(focus((apply ao;(conv=>lhs;whnf);(first|done|exact rfl))));(focus((repeat(first|exact List.mem_cons_self|refine List.mem_cons_of_mem _ ?_))));(focus(exact gB));(focus(exact rfl));(focus(exact rfl));(focus((first|exact ed|exact dY|exact ea|exact wd_pt|exact rfl)));(focus(exact rfl));(focus(kernel_rfl));(focus(kernel_rfl)))|(apply jb;(focus(exact rfl));(focus((apply ao;(conv=>lhs;whnf);(first|done|exact rfl))));(focus((repeat(first|exact List.mem_cons_self|refine List.mem_cons_of_mem _ ?_))));(focus(exact rfl));(focus((first|exact gB|(apply mL;assumption)|assumption|(apply uI;(focus assumption);(focus assumption))|exact rfl)));(focus(exact rfl));(focus((first|exact ed|exact dY|exact ea|exact wd_pt|exact rfl)));(focus(exact rfl));(focus(kernel_rfl));(focus(kernel_rfl))))):p:=h
theorem xA{p q:Prop}(h:q)(f:Wq q→p:=by(intro hW;((first|refine cw rfl rfl rfl aa zb0 aa aa ?_|((try refine aD ?_);refine aL1 rfl rfl rfl zb0 ?_)));exact hW.out)):p:=f ⟨h⟩
theorem zb29{p:Prop}(h:p:=by(apply Iy;(focus(exact rfl));(focus((apply ao;(conv=>lhs;whnf);(first|done|exact rfl))));(focus((apply ao;(conv=>lhs;whnf);(first|done|exact rfl))));(focus(kernel_rfl));(focus(kernel_rfl)))):p:=h
theorem rj{p:Prop}(h:p:=by(first|(apply C6;(focus(exact rfl));(focus((apply ao;(conv=>lhs;whnf);(first|done|exact rfl))));(focus(kernel_rfl));(focus(kernel_rfl)))|(apply mU;(focus(exact rfl));(focus((apply ao;(conv=>lhs;whnf);(first|done|exact rfl))));(focus(kernel_rfl));(focus(exact rfl));(focus(kernel_rfl))))):p:=h
theorem gF{p q:Prop}(h:q)(f:Wq q→p:=by(intro hW;(refine aL1 rfl rfl rfl rj ?_);exact hW.out)):p:=f ⟨h⟩
theorem xV{p q:Prop}(h:q)(f:Wq q→p:=by(intro hW;((refine gar ?_;refine gF ?_;refine aJ ?_;refine ae ?_));exact hW.out)):p:=f ⟨h⟩
theorem ay{p q:Prop}(h:q)(f:Wq q→p:=by(intro hW;((apply kY;(focus(first|(apply ao;(conv=>lhs;whnf);(first|done|exact rfl))|with_reducible exact bu|with_reducible exact fD|with_reducible exact ou|exact op_zero));(focus(first|with_reducible rfl|(apply decide_eq_false;omega)|assumption|(simp<;>omega)))));exact hW.out)):p:=f ⟨h⟩
theorem oU{p q:Prop}(h:q)(f:Wq q→p:=by(intro hW;((first|refine cw rfl rfl rfl aa rj aa aa ?_|((try refine aD ?_);refine aL1 rfl rfl rfl rj ?_)));exact hW.out)):p:=f ⟨h⟩
theorem zb7{p:Prop}(h:p:=by(first|(apply(vu (q':=.i64));(focus(exact rfl));(focus((apply ao;(conv=>lhs;whnf);(first|done|exact rfl))));(focus(kernel_rfl));(focus(kernel_rfl));(focus(first|(apply n6;(try simp only[]);omega)|exact rfl)))|(apply(vu (q':=.u32));(focus(exact rfl));(focus((apply ao;(conv=>lhs;whnf);(first|done|exact rfl))));(focus(kernel_rfl));(focus(kernel_rfl));(focus(first|(apply n6;(try simp only[]);omega)|exact rfl)))|(apply(vu (q':=.u64));(focus(exact rfl));(focus((apply ao;(conv=>lhs;whnf);(first|done|exact rfl))));(focus(kernel_rfl));(focus(kernel_rfl));(focus(first|(apply n6;(try simp only[]);omega)|exact rfl))))):p:=h
theorem zs29{p q:Prop}(h:q)(f:Wq q→p:=by(intro hW;((first|refine cw rfl rfl rfl aa zb7 aa aa ?_|((try refine aD ?_);refine aL1 rfl rfl rfl zb7 ?_)));exact hW.out)):p:=f ⟨h⟩
theorem zs9{p q:Prop}(h:q)(f:Wq q→p:=by(intro hW;((first|(refine aLs rfl rfl rfl rfl ?_ ?_;(focus(apply aK;(conv=>lhs;whnf);(first|done|exact rfl|(apply aG;(first|(apply decide_eq_true;omega)|(apply decide_eq_false;omega)|assumption|(simp;done)))))))|refine aLw rfl rfl rfl rfl bj zb22 ?_));exact hW.out)):p:=f ⟨h⟩
theorem bq{p q:Prop}(h:q)(f:Wq q→p:=by(intro hW;((first|refine cw rfl rfl rfl aa zb1 aa aa ?_|((try refine aD ?_);refine aL1 rfl rfl rfl zb1 ?_)));exact hW.out)):p:=f ⟨h⟩
theorem m8{p:Prop}(h:p:=by(apply rR;(focus(exact rfl));(focus((apply ao;(conv=>lhs;whnf);(first|done|exact rfl))));(focus(exact rfl));(focus(assumption));(focus(exact rfl)))):p:=h
theorem bL{p q:Prop}(h:q)(f:Wq q→p:=by(intro hW;(refine aL1 rfl rfl rfl m8 ?_);exact hW.out)):p:=f ⟨h⟩
theorem te{p q:Prop}(h:q)(f:Wq q→p:=by(intro hW;((refine gar ?_;refine zs4 ?_;refine bL ?_;refine zs6 ?_;refine ae ?_));exact hW.out)):p:=f ⟨h⟩
theorem zb3{p:Prop}(h:p:=by(first|(apply ig;(focus(exact rfl));(focus((apply ao;(conv=>lhs;whnf);(first|done|exact rfl))));(focus((apply ao;(conv=>lhs;whnf);(first|done|exact rfl))));(focus(kernel_rfl));(focus(kernel_rfl));(focus(omega));(focus((first|(apply uI;(focus assumption);(focus assumption))|(apply get_map;assumption)|(apply get_own;assumption)))))|(apply eE;(focus(exact rfl));(focus((apply ao;(conv=>lhs;whnf);(first|done|exact rfl))));(focus((apply ao;(conv=>lhs;whnf);(first|done|exact rfl))));(focus((repeat(first|exact List.mem_cons_self|refine List.mem_cons_of_mem _ ?_))));(focus(kernel_rfl));(focus(kernel_rfl));(focus(first|omega|(simp;omega)));(focus(first|(apply iG;assumption)|exact rfl))))):p:=h
theorem xB{p q:Prop}(h:q)(f:Wq q→p:=by(intro hW;((first|refine cw rfl rfl rfl aa zb3 aa aa ?_|((try refine aD ?_);refine aL1 rfl rfl rfl zb3 ?_)));exact hW.out)):p:=f ⟨h⟩
theorem zs3{p q:Prop}(h:q)(f:Wq q→p:=by(intro hW;(refine aL1 rfl rfl rfl (by(apply mV;(focus(exact rfl));(focus(exact ou)))) ?_);exact hW.out)):p:=f ⟨h⟩
theorem xD{p q:Prop}(h:q)(f:Wq q→p:=by(intro hW;(refine aL1 rfl rfl rfl zb9 ?_);exact hW.out)):p:=f ⟨h⟩
theorem tH{p q:Prop}(h:q)(f:Wq q→p:=by(intro hW;(refine aL1 rfl rfl rfl (by(first|(apply Fi;(focus(exact rfl));(focus((apply ao;(conv=>lhs;whnf);(first|done|exact rfl))));(focus(exact bu));(focus(omega)))|(apply bQ;(focus(exact rfl));(focus((apply ao;(conv=>lhs;whnf);(first|done|exact rfl))));(focus(exact bu));(focus(exact rfl))))) ?_);exact hW.out)):p:=f ⟨h⟩
theorem ba{p q:Prop}(h:q)(f:Wq q→p:=by(intro hW;((refine gar ?_;refine zs4 ?_;refine tH ?_;refine zs6 ?_;refine ae ?_));exact hW.out)):p:=f ⟨h⟩
theorem oZ{p:Prop}(h:p:=by(apply bQ;(focus(exact rfl));(focus((apply ao;(conv=>lhs;whnf);(first|done|exact rfl))));(focus(exact bu));(focus(exact rfl)))):p:=h
theorem zs7{p q:Prop}(h:q)(f:Wq q→p:=by(intro hW;(refine aL1 rfl rfl rfl oZ ?_);exact hW.out)):p:=f ⟨h⟩
theorem jO{p:Prop}(h:p:=by(repeat(first|exact set_nil|apply FZ|apply F0|(apply B7;(focus(exact rfl)))))):p:=h
theorem jN{p:Prop}(h:p:=by first|exact Nat.zero_lt_one|omega|(simp;omega)):p:=h
theorem eJ{p q:Prop}(h:q)(f:Wq q→p:=by(intro hW;((refine iU (i:=0) rfl rfl rfl bf bf aU aa jN aa cf aa af jO ?_));exact hW.out)):p:=f ⟨h⟩
theorem aw{p:Prop}(h:p:=by(repeat(first|exact BV|(apply zJ;(focus(repeat(first|exact List.mem_cons_self|refine List.mem_cons_of_mem _ ?_))))))):p:=h
theorem zs45{p q:Prop}(h:q)(f:Wq q→p:=by(intro hW;(refine aL1 rfl rfl rfl (by(apply fH;(focus(exact rfl));(focus((apply ao;(conv=>lhs;whnf);(first|done|exact rfl))));(focus((apply ao;(conv=>lhs;whnf);(first|done|exact rfl))));(focus(exact rfl));(focus(exact rfl));(focus((first|exact M l (by omega) h1 h2)));(focus(exact rfl)))) ?_);exact hW.out)):p:=f ⟨h⟩
theorem bs{p:Prop}(h:p:=by(repeat(first|exact B2|(apply zU;(focus(exact rfl)))|apply B4|apply FV))):p:=h
theorem zs16{p q:Prop}(h:q)(f:Wq q→p:=by(intro hW;((refine kj rfl rfl rfl rfl bf bf aU aa o3 af af (by(first|omega|(simp;done)|(simp;omega))) bB oY ?_));exact hW.out)):p:=f ⟨h⟩
theorem zs15{p q:Prop}(h:q)(f:Wq q→p:=by(intro hW;(refine aL1 rfl rfl rfl (by(apply y7;(focus(exact rfl));(focus((apply ao;(conv=>lhs;whnf);(first|done|exact rfl))));(focus((apply ao;(conv=>lhs;whnf);(first|done|exact rfl))));(focus(kernel_rfl));(focus(kernel_rfl));(focus(first|exact Int.toNat_natCast _|exact rfl));(focus(first|omega|(simp;omega))))) ?_);exact hW.out)):p:=f ⟨h⟩
theorem zs14{p q:Prop}(h:q)(f:Wq q→p:=by(intro hW;((refine xr (k:=18) (wd:=1) (T:=Tryz.prog.elem 40) rfl rfl rfl rfl af af aa aa bB ?_));exact hW.out)):p:=f ⟨h⟩
theorem Ec{p q:Prop}(h:q)(f:Wq q→p:=by(intro hW;((refine gar ?_;refine zs14 ?_;refine zs4 ?_;refine zs4 ?_;refine zs15 ?_;refine zs16 ?_;refine zs6 ?_;refine ae ?_));exact hW.out)):p:=f ⟨h⟩
theorem zb52{p:Prop}(h:p:=by rw[List.take_append_of_le_length (by omega),List.take_of_length_le (by omega)];exact h):p:=h
theorem lV{p q:Prop}(h:q)(f:Wq q→p:=by(intro hW;((first|refine cw rfl rfl rfl aa m8 aa aa ?_|((try refine aD ?_);refine aL1 rfl rfl rfl m8 ?_)));exact hW.out)):p:=f ⟨h⟩
theorem cK{p q:Prop}(h:q)(f:Wq q→p:=by(intro hW;(refine aL1 rfl rfl rfl (by(apply C4;(focus(exact rfl));(focus((apply ao;(conv=>lhs;whnf);(first|done|exact rfl))));(focus(exact rfl)))) ?_);exact hW.out)):p:=f ⟨h⟩
theorem x9{p:Prop}(h:p:=by rw[HB5.out];simp;omega):p:=h
theorem bK{p q:Prop}(h:q)(f:Wq q→p:=by(intro hW;((refine gar ?_;refine zs3 ?_;refine ae ?_));exact hW.out)):p:=f ⟨h⟩
theorem td{p q:Prop}(h:q)(f:Wq q→p:=by(intro hW;((refine gar ?_;refine cK ?_;refine zs34 ?_;refine ae ?_));exact hW.out)):p:=f ⟨h⟩
theorem b9{p:Prop}(h:p:=by(apply aK;(conv=>lhs;whnf);(first|done|exact rfl))):p:=h
theorem zs65{p q:Prop}(h:q)(f:Wq q→p:=by(intro hW;(refine aL1 rfl rfl rfl (by(first|(apply qJ;(focus(exact rfl));(focus((apply ao;(conv=>lhs;whnf);(first|done|exact rfl))));(focus(exact rfl));(focus((first|exact ed|exact dY|exact ea|exact wd_pt|exact rfl)));(focus(exact rfl));(focus(kernel_rfl));(focus(kernel_rfl)))|(apply ik;(focus(exact rfl));(focus((apply ao;(conv=>lhs;whnf);(first|done|exact rfl))));(focus((repeat(first|exact List.mem_cons_self|refine List.mem_cons_of_mem _ ?_))));(focus(exact gB));(focus(exact rfl));(focus(exact rfl));(focus((first|exact ed|exact dY|exact ea|exact wd_pt|exact rfl)));(focus(exact rfl));(focus(kernel_rfl));(focus(kernel_rfl)))|(apply jb;(focus(exact rfl));(focus((apply ao;(conv=>lhs;whnf);(first|done|exact rfl))));(focus((repeat(first|exact List.mem_cons_self|refine List.mem_cons_of_mem _ ?_))));(focus(exact rfl));(focus((first|exact gB|(apply mL;assumption)|assumption|(apply get_map;exact hy h6)|exact rfl)));(focus(exact rfl));(focus((first|exact ed|exact dY|exact ea|exact wd_pt|exact rfl)));(focus(exact rfl));(focus(kernel_rfl));(focus(kernel_rfl))))) ?_);exact hW.out)):p:=f ⟨h⟩
theorem zb6{p:Prop}(h:p:=by(first|(apply vp;(focus(exact rfl));(focus((apply ao;(conv=>lhs;whnf);(first|done|exact rfl))));(focus(first|exact rfl|(apply decide_eq_true;omega)|assumption|(simp;done)));(focus((apply ao;(conv=>lhs;whnf);(first|done|exact rfl)))))|(apply vq;(focus(exact rfl));(focus((apply ao;(conv=>lhs;whnf);(first|done|exact rfl))));(focus(first|exact rfl|(apply decide_eq_false;omega)|assumption|(simp;done)));(focus(exact fD)))|(apply d_pick;(focus(exact rfl));(focus((apply ao;(conv=>lhs;whnf);(first|done|exact rfl))));(focus((apply ao;(conv=>lhs;whnf);(first|done|exact rfl))));(focus(exact fD));(focus(exact rfl))))):p:=h
theorem gJ{p q:Prop}(h:q)(f:Wq q→p:=by(intro hW;(refine aL1 rfl rfl rfl zb6 ?_);exact hW.out)):p:=f ⟨h⟩
theorem zs51{p q:Prop}(h:q)(f:Wq q→p:=by(intro hW;(refine aL1 rfl rfl rfl zb8 ?_);exact hW.out)):p:=f ⟨h⟩
theorem pO{p q:Prop}(h:q)(f:Wq q→p:=by(intro hW;((refine gar ?_;refine zs4 ?_;refine zs51 ?_;refine zs6 ?_;refine ae ?_));exact hW.out)):p:=f ⟨h⟩
theorem zs18{p q:Prop}(h:q)(f:Wq q→p:=by(intro hW;((first|(refine aLs rfl rfl rfl rfl ?_ ?_;(focus(apply aK;(conv=>lhs;whnf);(first|done|exact rfl|(apply aG;(first|(apply decide_eq_true;omega)|(apply decide_eq_false;omega)|assumption|(simp;done)))))))|refine aLw rfl rfl rfl rfl bj zb0 ?_));exact hW.out)):p:=f ⟨h⟩
theorem zs17{p q:Prop}(h:q)(f:Wq q→p:=by(intro hW;((first|(refine aLs rfl rfl rfl rfl ?_ ?_;(focus(apply aK;(conv=>lhs;whnf);(first|done|exact rfl|(apply aG;(first|(apply decide_eq_true;omega)|(apply decide_eq_false;omega)|assumption|(simp;done)))))))|refine aLw rfl rfl rfl rfl bj zb3 ?_));exact hW.out)):p:=f ⟨h⟩
theorem Eb{p q:Prop}(h:q)(f:Wq q→p:=by(intro hW;((refine gar ?_;refine zs4 ?_;refine zs7 ?_;refine zs4 ?_;refine zs8 ?_;refine zs8 ?_;refine zs9 ?_;refine zs17 ?_;refine zs18 ?_;refine xZ ?_;refine gJ ?_;refine ae ?_));exact hW.out)):p:=f ⟨h⟩
theorem zb30{p:Prop}(h:p:=by first|with_reducible rfl|exact ui (by omega)|exact ui (by simp)|(apply ui;omega)|(apply aG;(first|(apply decide_eq_false;omega)|(apply decide_eq_true;omega)|(simp<;>omega)))):p:=h
theorem au{p:Prop}(h:p:=by(repeat(first|exact FJ|refine BW b9 zb30 ?_))):p:=h
theorem jj{p q:Prop}(h:q)(f:Wq q→p:=by(intro hW;(refine aL1 rfl rfl rfl (by(apply mV;(focus(exact rfl));(focus(exact fD)))) ?_);exact hW.out)):p:=f ⟨h⟩
theorem cj{p q:Prop}(h:q)(f:Wq q→p:=by(intro hW;((refine gar ?_;refine jj ?_;refine ae ?_));exact hW.out)):p:=f ⟨h⟩
theorem xC{p q:Prop}(h:q)(f:Wq q→p:=by(intro hW;((first|(apply ak 8;(focus kernel_rfl);(focus(decide+kernel)))|(apply ak 7;(focus kernel_rfl);(focus(decide+kernel)))|(apply ak 6;(focus kernel_rfl);(focus(decide+kernel)))|(apply ak 5;(focus kernel_rfl);(focus(decide+kernel)))|(apply ak 4;(focus kernel_rfl);(focus(decide+kernel)))|(apply ak 3;(focus kernel_rfl);(focus(decide+kernel)))|(apply ak 2;(focus kernel_rfl);(focus(decide+kernel)))|(apply ak 1;(focus kernel_rfl);(focus(decide+kernel))));simp only[List.take_succ_cons,List.take_zero,List.drop_succ_cons,List.drop_zero]);exact hW.out)):p:=f ⟨h⟩
theorem a8{p q:Prop}(h:q)(f:Wq q→p:=by(intro hW;((first|refine cw rfl rfl rfl aa l9 aa aa ?_|((try refine aD ?_);refine aL1 rfl rfl rfl l9 ?_)));exact hW.out)):p:=f ⟨h⟩
theorem xx{p q:Prop}(h:q)(f:Wq q→p:=by(intro hW;((first|refine cw rfl rfl rfl aa zb11 aa aa ?_|((try refine aD ?_);refine aL1 rfl rfl rfl zb11 ?_)));exact hW.out)):p:=f ⟨h⟩
theorem Ea{p q:Prop}(h:q)(f:Wq q→p:=by(intro hW;((refine xC ?_;refine a8 ?_;refine a8 ?_;refine xB ?_;refine xA ?_;refine a8 ?_;refine a8 ?_;refine xB ?_;refine xA ?_;refine xx ?_;refine cV ?_));exact hW.out)):p:=f ⟨h⟩
theorem zs64{p q:Prop}(h:q)(f:Wq q→p:=by(intro hW;(refine aL1 rfl rfl rfl (by(first|(apply ig;(focus(exact rfl));(focus((apply ao;(conv=>lhs;whnf);(first|done|exact rfl))));(focus((apply ao;(conv=>lhs;whnf);(first|done|exact rfl))));(focus(kernel_rfl));(focus(kernel_rfl));(focus(omega));(focus((first|(apply get_map;exact hy h6)|(apply get_map;assumption)|(apply get_own;assumption)))))|(apply eE;(focus(exact rfl));(focus((apply ao;(conv=>lhs;whnf);(first|done|exact rfl))));(focus((apply ao;(conv=>lhs;whnf);(first|done|exact rfl))));(focus((repeat(first|exact List.mem_cons_self|refine List.mem_cons_of_mem _ ?_))));(focus(kernel_rfl));(focus(kernel_rfl));(focus(first|omega|(simp;omega)));(focus(first|(apply iG;assumption)|exact rfl))))) ?_);exact hW.out)):p:=f ⟨h⟩
theorem bh{p q:Prop}(h:q)(f:Wq q→p:=by(intro hW;((refine gar ?_;refine zs4 ?_;refine zs4 ?_;refine zs5 ?_;refine jn ?_;refine ae ?_));exact hW.out)):p:=f ⟨h⟩
theorem iA{p:Prop}(h:p:=by(first|(apply ao;(conv=>lhs;whnf);(first|done|exact rfl))|with_reducible exact bu|with_reducible exact fD|with_reducible exact ou|exact op_zero)):p:=h
theorem fX{p q:Prop}(h:q)(f:Wq q→p:=by(intro hW;(refine aL1 rfl rfl rfl (by(apply mV;(focus(exact rfl));(focus(exact bu)))) ?_);exact hW.out)):p:=f ⟨h⟩
theorem nY{p q:Prop}(h:q)(f:Wq q→p:=by(intro hW;((refine gar ?_;refine cK ?_;refine fX ?_;refine ae ?_));exact hW.out)):p:=f ⟨h⟩
theorem zs43{p q:Prop}(h:q)(f:Wq q→p:=by(intro hW;(refine aL1 rfl rfl rfl (by(first|(apply bQ;(focus(exact rfl));(focus((apply ao;(conv=>lhs;whnf);(first|done|exact rfl))));(focus(exact bu));(focus(exact rfl)))|(apply Fe;(focus(exact rfl));(focus((apply ao;(conv=>lhs;whnf);(first|done|exact rfl))));(focus(exact bu));(focus(kernel_rfl))))) ?_);exact hW.out)):p:=f ⟨h⟩
theorem cB{p q:Prop}(h:q)(f:Wq q→p:=by(intro hW;((refine gar ?_;refine zs4 ?_;refine zs43 ?_;refine ae ?_));exact hW.out)):p:=f ⟨h⟩
theorem jL{p q:Prop}(h:q)(f:Wq q→p:=by(intro hW;((first|refine cw rfl rfl rfl aa tN aa aa ?_|((try refine aD ?_);refine aL1 rfl rfl rfl tN ?_)));exact hW.out)):p:=f ⟨h⟩
theorem zs58{p q:Prop}(h:q)(f:Wq q→p:=by(intro hW;((first|(apply ak 9;(focus kernel_rfl);(focus(decide+kernel)))|(apply ak 8;(focus kernel_rfl);(focus(decide+kernel)))|(apply ak 7;(focus kernel_rfl);(focus(decide+kernel)))|(apply ak 6;(focus kernel_rfl);(focus(decide+kernel)))|(apply ak 5;(focus kernel_rfl);(focus(decide+kernel)))|(apply ak 4;(focus kernel_rfl);(focus(decide+kernel)))|(apply ak 3;(focus kernel_rfl);(focus(decide+kernel)))|(apply ak 2;(focus kernel_rfl);(focus(decide+kernel))));simp only[List.take_succ_cons,List.take_zero,List.drop_succ_cons,List.drop_zero]);exact hW.out)):p:=f ⟨h⟩
theorem oT{p q:Prop}(h:q)(f:Wq q→p:=by(intro hW;(refine aL1 rfl rfl rfl zb21 ?_);exact hW.out)):p:=f ⟨h⟩
theorem zs60{p q:Prop}(h:q)(f:Wq q→p:=by(intro hW;((first|(refine aLs rfl rfl rfl rfl ?_ ?_;(focus(apply aK;(conv=>lhs;whnf);(first|done|exact rfl|(apply aG;(first|(apply decide_eq_true;omega)|(apply decide_eq_false;omega)|assumption|(simp;done)))))))|refine aLw rfl rfl rfl rfl bj yi ?_));exact hW.out)):p:=f ⟨h⟩
theorem zb5{p:Prop}(h:p:=by(first|(apply vp;(focus(exact rfl));(focus((apply ao;(conv=>lhs;whnf);(first|done|exact rfl))));(focus(first|exact rfl|(apply decide_eq_true;omega)|assumption|(simp;done)));(focus(exact fD)))|(apply vq;(focus(exact rfl));(focus((apply ao;(conv=>lhs;whnf);(first|done|exact rfl))));(focus(first|exact rfl|(apply decide_eq_false;omega)|assumption|(simp;done)));(focus((apply ao;(conv=>lhs;whnf);(first|done|exact rfl)))))|(apply d_pick;(focus(exact rfl));(focus((apply ao;(conv=>lhs;whnf);(first|done|exact rfl))));(focus(exact fD));(focus((apply ao;(conv=>lhs;whnf);(first|done|exact rfl))));(focus(exact rfl))))):p:=h
theorem gE{p q:Prop}(h:q)(f:Wq q→p:=by(intro hW;(refine aL1 rfl rfl rfl zb5 ?_);exact hW.out)):p:=f ⟨h⟩
theorem lU{p q:Prop}(h:q)(f:Wq q→p:=by(intro hW;((first|(refine aLs rfl rfl rfl rfl ?_ ?_;(focus(apply aK;(conv=>lhs;whnf);(first|done|exact rfl|(apply aG;(first|(apply decide_eq_true;omega)|(apply decide_eq_false;omega)|assumption|(simp;done)))))))|refine aLw rfl rfl rfl rfl bj oZ ?_));exact hW.out)):p:=f ⟨h⟩
theorem oS{p q:Prop}(h:q)(f:Wq q→p:=by(intro hW;((first|(refine aLs rfl rfl rfl rfl ?_ ?_;(focus(apply aK;(conv=>lhs;whnf);(first|done|exact rfl|(apply aG;(first|(apply decide_eq_true;omega)|(apply decide_eq_false;omega)|assumption|(simp;done)))))))|refine aLw rfl rfl rfl rfl bj zb2 ?_));exact hW.out)):p:=f ⟨h⟩
theorem D0{p q:Prop}(h:q)(f:Wq q→p:=by(intro hW;((refine gar ?_;refine zs4 ?_;refine zs4 ?_;refine zs5 ?_;refine jn ?_;refine zs4 ?_;refine zs8 ?_;refine zs8 ?_;refine oS ?_;refine zs60 ?_;refine gE ?_;refine zs4 ?_;refine zs8 ?_;refine lU ?_;refine gE ?_;refine ae ?_));exact hW.out)):p:=f ⟨h⟩
theorem br{p:Prop}(h:p:=by(repeat(first|exact drop_nil|apply CX|(apply Bb;(focus(exact rfl)))))):p:=h
theorem zs40{p q:Prop}(h:q)(f:Wq q→p:=by(intro hW;((first|(apply ak 6;(focus kernel_rfl);(focus(decide+kernel)))|(apply ak 5;(focus kernel_rfl);(focus(decide+kernel)))|(apply ak 4;(focus kernel_rfl);(focus(decide+kernel)))|(apply ak 3;(focus kernel_rfl);(focus(decide+kernel)))|(apply ak 2;(focus kernel_rfl);(focus(decide+kernel)))|(apply ak 1;(focus kernel_rfl);(focus(decide+kernel))));simp only[List.take_succ_cons,List.take_zero,List.drop_succ_cons,List.drop_zero]);exact hW.out)):p:=f ⟨h⟩
theorem tG{p q:Prop}(h:q)(f:Wq q→p:=by(intro hW;(((try refine aD ?_);(refine iU (i:=0) rfl rfl rfl bf bf aU aa jN aa cf aa af jO ?_)));exact hW.out)):p:=f ⟨h⟩
theorem aQ{p q:Prop}(h:q)(f:Wq q→p:=by(intro hW;((refine gar ?_;refine fX ?_;refine ae ?_));exact hW.out)):p:=f ⟨h⟩
theorem dX{p q:Prop}(h:q)(f:Wq q→p:=by(intro hW;((refine gar ?_;refine zs4 ?_;refine zs7 ?_;refine ae ?_));exact hW.out)):p:=f ⟨h⟩
theorem iy{p q:Prop}(h:q)(f:Wq q→p:=by(intro hW;((first|(refine aLs rfl rfl rfl rfl ?_ ?_;(focus(apply aK;(conv=>lhs;whnf);(first|done|exact rfl|(apply aG;(first|(apply decide_eq_true;omega)|(apply decide_eq_false;omega)|assumption|(simp;done)))))))|refine aLw rfl rfl rfl rfl bj zb1 ?_));exact hW.out)):p:=f ⟨h⟩
end
section
open Go.RowKit Go.BigFrame
attribute [local go_sem ↓] Go.wp_at_zero Go.wp_at_succ
def pk:List Nat→List Nat
 |[]=>[]
 |[x]=>[x]
 |x::y::l=>(x+y*65536)::pk l
theorem EL:∀l:List Nat,Dg.vl B32 (pk l)=Dg.vl B16 l
 |[]=>rfl
 |[x]=>rfl
 |x::y::l=>by
  simp only[pk,Dg.cn,EL l,B16,B32]
  omega
theorem Al:∀{l:List Nat},Dg.dig B16 l→Dg.dig B32 (pk l)
 |[],_=>fun x h=>by cases h
 |[x],h=>fun y hy=>by
  simp only[pk,List.mem_singleton]at hy
  have:=h x List.mem_cons_self
  subst hy
  show y<4294967296
  have:y<65536:=this
  omega
 |x::y::l,h=>by
  have h1:=Dg.gu h
  have h2:=Dg.gu h1.2
  have h3:=Al h2.2
  have h4:x<65536:=h1.1
  have h5:y<65536:=h2.1
  intro z hz
  simp only[pk,List.mem_cons]at hz
  rcases hz with rfl|hz
  ·show x+y*65536<4294967296;omega
  ·exact h3 z hz
theorem EM:∀{l:List Nat},l≠[]→pk l≠[]
 |[],h=>absurd rfl h
 |[x],_=>by simp[pk]
 |x::y::l,_=>by simp[pk]
theorem wE:∀{l:List Nat},l.getLast?≠some 0→(pk l).getLast?≠some 0
 |[],h=>h
 |[x],h=>h
 |x::y::[],h=>by
  simp[pk]at h⊢
  omega
 |x::y::z::l,h=>by
  have h1:(z::l).getLast?≠some 0:=by simpa using h
  have h2:=wE h1
  have h3:pk (z::l)≠[]:=EM (by simp)
  simp only[pk]
  rw[List.getLast?_cons]
  obtain⟨u,hu⟩:∃u,(pk (z::l)).getLast?=some u:=by
   cases h4:(pk (z::l)).getLast? with
   |none=>rw[List.getLast?_eq_none_iff]at h4;exact absurd h4 h3
   |some u=>exact⟨u,rfl⟩
  rw[hu]at h2⊢
  simpa using h2
theorem pk_nf{l:List Nat}(h:Dg.NF B16 l):Dg.NF B32 (pk l):=⟨Al h.dg,wE h.nz⟩
theorem wD:∀{l:List Nat} {k x:Nat},l[2*k]?=some x→pk (l.take (2*k+2))=pk (l.take (2*k))++[x+l.getD (2*k+1) 0*65536]
 |[],k,x,h=>by simp at h
 |[y],0,x,h=>by
  simp at h;subst h
  simp[pk]
 |[y],k+1,x,h=>by simp at h
 |y::z::l,0,x,h=>by
  simp at h;subst h
  simp[pk]
 |y::z::l,k+1,x,h=>by
  have e:2*(k+1)=2*k+1+1:=by omega
  rw[e]at h⊢
  have h1:l[2*k]?=some x:=by simpa using h
  have h2:=wD h1
  simp only[List.take_succ_cons,pk,List.cons_append,List.getD_cons_succ,h2]
theorem Ch{l:List Nat}{k x:Nat}(hk:k%2=0)(h:l[k]?=some x):pk (l.take (k+2))=pk (l.take k)++[x+l.getD (k+1) 0*65536]:=by
 obtain⟨j,rfl⟩:∃j,k=2*j:=⟨k/2,by omega⟩
 exact wD h
theorem Hr{l:List Nat}{k:Nat}(h:l.length≤k):pk (l.take k)=pk l:=by rw[List.take_of_length_le h]
theorem Ak:∀l:List Nat,(pk l).length≤l.length
 |[]=>Nat.le_refl _
 |[x]=>Nat.le_refl _
 |x::y::l=>by have:=Ak l;simp[pk];omega
theorem cQ.zX{w:World}{base:Nat}{v:Value}{l:List Nat}(h:cQ w base v l){g o:Nat}(u:Value)(hg:g<base):cQ (w.setCell ⟨g,o,none⟩ u) base v l:=by
 refine World.ownsRow.kept h (fi w g o u) ?_
 cases e:v.ownBlock with
 |none=>exact .inl rfl
 |some k=>
  right;intro e2
  have:=(World.ownsRow.lt h k e).1
  cases e2;omega
set_option maxRecDepth 10000 in
set_option maxHeartbeats 8000000 in
theorem AV(s:Bool)(l:List Nat)(v:Value)(hl:l.length≤2000000000000)(hd:Dg.dig B16 l)(w:World)(TR0:∀W,Below w.heap.size w W→Calls Tryz.prog 188 #[v] W fun e w'=>HRes w' e (Dg.vl B16 l)∧Below W.heap.size W w'):
  Calls Tryz.prog 150 #[.bool s,v] w fun e w'=>(∃x,e= .returned (.agg #[.bool x.s,.slice x.a x.n x.cap])∧IZ w' x (Dg.iv s (Dg.vl B16 l)))∧Below w.heap.size w w':=by
 have TR:=Lib.hid TR0
 clear TR0
 have hN:=Dg.aX hd
 have LB:Hid (∀m:List Nat,Dg.NF B16 m→Dg.vl B16 m=Dg.vl B16 l→m.length≤2000000000000):=fun m h1 h2=>by
  rcases Nat.lt_or_ge l.length m.length with h3|h3
  ·obtain⟨k,hk⟩:∃k,m.length=k+1:=⟨m.length-1,by omega⟩
   have h4:=Dg.gU hk h1
   have h5:=Dg.aX hd
   have h6:B16^l.length≤B16^k:=Nat.pow_le_pow_right (by decide) (by omega)
   omega
  ·omega
 generalize hNe:Dg.vl B16 l=N at*
 clear hNe hN hd
 obtain⟨d,hd⟩:∃d,d=decide (N≠0):=⟨_,rfl⟩
 have fin:∀(c:Bool),(c=(s&&d))→∀(m:List Nat) (w':World) (v1:Value) (base:Nat),Dg.NF B16 m→Dg.vl B16 m=N→cQ w' base v1 (pk m)→∃x:IV,v1= .slice x.a x.n x.cap∧x.s=c∧IZ w' x (Dg.iv s N):=fun c hc m w' v1 base h1 h2 h3=>by
  obtain⟨a,cap,e,h4,_,h5,_⟩:=h3.ws
  refine⟨⟨c,a,(pk m).length,cap⟩,e,rfl,pk m,⟨rfl,h4,h5,pk_nf h1⟩,fun e=>?_,?_⟩
  ·have:m=[]:=Decidable.byContradiction fun hm=>EM hm e
   subst this
   have:N=0:=h2.symm
   subst this;simp[hc,hd]
  ·rw[EL,h2]
   by_cases h0:N=0
   ·subst h0;rw[Dg.lM,Dg.lM]
   ·simp[hc,hd,h0]
 have FIN:=Lib.hid fin
 clear fin
 have key:∀m,Dg.NF B16 m→Dg.vl B16 m=N→decide ((0:Int)<(m.length:Int))=d:=fun m h1 h2=>by
  have h3:=Dg.ov h1 (by decide)
  rw[hd,decide_eq_decide,←h2]
  constructor
  ·intro h4 h5
   rw[h3.1 h5]at h4;simp at h4
  ·intro h4
   have:m≠[]:=fun e=>h4 (h3.2 e)
   have:=List.length_pos_iff.2 this
   omega
 have KEY:=Lib.hid key
 clear key hd
 obtain⟨c0,hc0⟩:∃c0,c0=(s&&d):=⟨_,rfl⟩
 have W1b:∀(W:World) (b x:Nat),b=W.heap.size→WS (W.alloc (.cells #[.int .u32 (x:Int)] 138)) (some ⟨b,0,none⟩) [x]:=fun W b x hb=>we W _ b x hb
 have WB:=Lib.hid W1b
 have FIN1:=Lib.hid (FIN.out c0 hc0)
 clear W1b FIN
 cases s<;>cases d
 all_goals
  simp only[Bool.and_false,Bool.and_true]at hc0
  have HC0:=Lib.hid hc0
  clear hc0
  go_enter Tryz.func150,Tryz.ntmps150
  go_wp2_with (first|(go_at_call 188;(with_reducible refine(TR.out _ ?_).mono ?_);(focus(exact bel));rintro e w1 ⟨⟨v1,m,rfl,h1,h2,h3⟩,hb1⟩;obtain⟨a1,c1,rfl,hle1,hv1⟩:=h1.parts;have hdf:=KEY.out m h2 h3;have HM:=Lib.hid (And.intro h2 h3);have hml:=LB.out m h2 h3;clear h1 h2 h3;obtain⟨g1,rfl⟩:=mob hb1;clear hb1;have HS1:=Lib.hid hv1;clear hv1;(obtain⟨q,hq⟩:∃q,q=m.length:=(⟨_,rfl⟩));have HQ:=Lib.hid hq;rw[←hq]at hdf hml⊢;clear hq hle1))
  have hb5:∃b5,b5=w.heap.size+1+g1.2.size:=⟨_,rfl⟩
  obtain⟨b5,hb5⟩:=hb5
  have HB5:=Lib.hid hb5
  have hqb:(q:Int)≤2000000000000:=by omega
  rw[←hb5]
  clear hb5
  go_loopw [6] (fun i wr=>∃(k:Nat) (v:Value),k≤q+1∧i= .int .i64 ((k:Int))∧Hid (k%2=0)∧wr.cell? ⟨b5,0,none⟩=some (.bool c0)∧wr.cell? ⟨b5,1,none⟩=some v∧wr.frozen? ⟨b5,1,none⟩=false∧b5<wr.heap.size∧Hid (cQ wr (b5+1) v (pk (m.take k))∧Below b5 (more (w.alloc (.cells #[.bool false,.slice none 0 0] 62)) g1) wr)) (fun i _=>q+1-(intOf i).toNat)
  case atStart=>
   refine⟨0,.slice none 0 0,by omega,rfl,rfl,?_,?_,?_,?_,cQ.nil _ _,?_⟩
   ·rw[HB5.out,HC0.out];go_simp<;>(simp at hdf;omega)
   ·rw[HB5.out];go_simp
   ·rw[HB5.out];go_simp
   ·rw[HB5.out];simp
   ·rw[HB5.out];refine Below.alloc (Below.refl _ _) ?_ _;simp
  case round=>
   obtain⟨k,v,hk,rfl,HK,k0,k1,kf,kl,HR⟩:=hrel
   by_cases hkq:k<q
   ·have hkq2:(k:Int)<(q:Int):=by omega
    obtain⟨x,hx⟩:∃x,m[k]?=some x:=⟨_,List.getElem?_eq_getElem (by rw[←HQ.out];exact hkq)⟩
    have hxb:x<65536:=HM.out.1.dg x (List.mem_of_getElem? hx)
    rcases HS1.out.below (HR.out.2) (by rw[HB5.out];simp)with h0|⟨g,ha,hg,hcc⟩
    ·rw[h0]at hx;simp at hx
    have c2:=hcc k x hx
    subst ha
    have PK0:=Ch HK.out hx
    obtain⟨z,hz⟩:∃z,z=x+m.getD (k+1) 0*65536:=⟨_,rfl⟩
    rw[←hz]at PK0
    have HZ:=Lib.hid hz
    have PK:=Lib.hid PK0
    clear hz PK0
    have hlen:(pk (m.take k)).length+[z].length≤4000000000000:=by
     have:=Ak (m.take k);rw[List.length_take]at this;simp;omega
    by_cases hkq3:k+1<q
    ·have hkq4:(k:Int)+1<(q:Int):=by omega
     obtain⟨y,hy⟩:∃y,m[k+1]?=some y:=⟨_,List.getElem?_eq_getElem (by rw[←HQ.out];exact hkq3)⟩
     have hyb:y<65536:=HM.out.1.dg y (List.mem_of_getElem? hy)
     have c3:=hcc (k+1) y hy
     have hyd:m.getD (k+1) 0=y:=by rw[List.getD_eq_getElem?_getD,hy];rfl
     have HY:Hid (∀(W:World) (b:Nat),b=W.heap.size→WS (W.alloc (.cells #[.int .u32 ((x:Int)+(y:Int)*65536)] 138)) (some ⟨b,0,none⟩) [z]):=fun W b hb=>by
      rw[show(x:Int)+(y:Int)*65536=(z:Int) by have:=HZ.out;rw[hyd]at this;omega]
      exact WB.out W b _ hb
     have hx2:(x:Int)<65536:=by omega
     have hy2:(y:Int)<65536:=by omega
     clear hcc hx hy hyd hxb hyb
     go_wp2_with (first|(at_builtin;go_must (refine fm (w0:=wr) (base:=b5+1) (v:=v) (l:=pk (m.take k)) ?_ ?_ ?_ 60 60 Tryz.underlying60 Tryz.underlying60 [z] wr.heap.size 1 1 rfl ?_ hlen rfl (.tmp 43) (.tmp 45) rfl (by rfl) (by rfl) ?_);(focus(exact World.ownsRow.alloc HR.out.1 _));(focus(exact bel));(focus(simp;omega));(focus(exact HY.out _ _ (by simp)));intro v4 w4 hown4 hB4 hz4;obtain⟨a4,cap4,hv4,_⟩:=hown4.ws;subst hv4;have HO4:=Lib.hid (And.intro hown4 hB4);have k4:=(hB4.cell (p:=⟨b5,0,none⟩) (Nat.lt_succ_self _)).trans k0;have k5:=(hB4.cell (p:=⟨b5,1,none⟩) (Nat.lt_succ_self _)).trans k1;have k6:=(hB4.frozen (p:=⟨b5,1,none⟩) (Nat.lt_succ_self _)).trans kf;clear hown4 hB4))
     go_roundw
     case rel=>
      refine⟨k+2,.slice a4 ((pk (m.take k)).length+1) cap4,by omega,by go_num,by have:=HK.out;show(k+2)%2=0;omega,?_,?_,?_,?_,?_,?_⟩
      ·rw[bP _ _ _ _ _ (by omega)];exact k4
      ·exact ct _ _ _ _ _ k5
      ·rw[World.frozen?_setCell];exact k6
      ·simp;omega
      ·have h1:=HO4.out.1
       rw[show(pk (m.take k)++[z]).length=(pk (m.take k)).length+1 by simp]at h1
       rw[←PK.out]at h1
       exact h1.zX _ (Nat.lt_succ_self _)
      ·exact Below.setCell (Below.trans HR.out.2 (HO4.out.2.mono (Nat.le_succ _))) (Nat.le_refl _) _
     case measure=>simp[intOf];omega
    ·have hkq4:¬(k:Int)+1<(q:Int):=by omega
     have hyd:m.getD (k+1) 0=0:=by rw[List.getD_eq_getElem?_getD,List.getElem?_eq_none (by rw[←HQ.out];omega)];rfl
     have HY:Hid (∀(W:World) (b:Nat),b=W.heap.size→WS (W.alloc (.cells #[.int .u32 (x:Int)] 138)) (some ⟨b,0,none⟩) [z]):=fun W b hb=>by
      rw[show(x:Int)=(z:Int) by have:=HZ.out;rw[hyd]at this;omega]
      exact WB.out W b z hb
     have hx2:(x:Int)<65536:=by omega
     clear hcc hx hyd hxb
     go_wp2_with (first|(at_builtin;go_must (refine fm (w0:=wr) (base:=b5+1) (v:=v) (l:=pk (m.take k)) ?_ ?_ ?_ 60 60 Tryz.underlying60 Tryz.underlying60 [z] wr.heap.size 1 1 rfl ?_ hlen rfl (.tmp 43) (.tmp 45) rfl (by rfl) (by rfl) ?_);(focus(exact World.ownsRow.alloc HR.out.1 _));(focus(exact bel));(focus(simp;omega));(focus(exact HY.out _ _ (by simp)));intro v4 w4 hown4 hB4 hz4;obtain⟨a4,cap4,hv4,_⟩:=hown4.ws;subst hv4;have HO4:=Lib.hid (And.intro hown4 hB4);have k4:=(hB4.cell (p:=⟨b5,0,none⟩) (Nat.lt_succ_self _)).trans k0;have k5:=(hB4.cell (p:=⟨b5,1,none⟩) (Nat.lt_succ_self _)).trans k1;have k6:=(hB4.frozen (p:=⟨b5,1,none⟩) (Nat.lt_succ_self _)).trans kf;clear hown4 hB4))
     go_roundw
     case rel=>
      refine⟨k+2,.slice a4 ((pk (m.take k)).length+1) cap4,by omega,by go_num,by have:=HK.out;show(k+2)%2=0;omega,?_,?_,?_,?_,?_,?_⟩
      ·rw[bP _ _ _ _ _ (by omega)];exact k4
      ·exact ct _ _ _ _ _ k5
      ·rw[World.frozen?_setCell];exact k6
      ·simp;omega
      ·have h1:=HO4.out.1
       rw[show(pk (m.take k)++[z]).length=(pk (m.take k)).length+1 by simp]at h1
       rw[←PK.out]at h1
       exact h1.zX _ (Nat.lt_succ_self _)
      ·exact Below.setCell (Below.trans HR.out.2 (HO4.out.2.mono (Nat.le_succ _))) (Nat.le_refl _) _
     case measure=>simp[intOf];omega
   ·have hkq2:¬(k:Int)<(q:Int):=by omega
    have hfin:=FIN1.out m wr v (b5+1) HM.out.1 HM.out.2 (by have h1:=HR.out.1;rw[Hr (by rw[←HQ.out];omega)]at h1;exact h1)
    obtain⟨y,rfl,rfl,hy⟩:=hfin
    have HY:=Lib.hid hy
    have r0:wr.cell? ⟨w.heap.size,0,none⟩=some (.bool false):=(HR.out.2.cell (p:=⟨w.heap.size,0,none⟩) x9).trans (by go_simp)
    have r1:wr.cell? ⟨w.heap.size,1,none⟩=some (.slice none 0 0):=(HR.out.2.cell (p:=⟨w.heap.size,1,none⟩) x9).trans (by go_simp)
    have r2:wr.frozen? ⟨w.heap.size,0,none⟩=false:=(HR.out.2.frozen (p:=⟨w.heap.size,0,none⟩) x9).trans (by go_simp)
    have r3:wr.frozen? ⟨w.heap.size,1,none⟩=false:=(HR.out.2.frozen (p:=⟨w.heap.size,1,none⟩) x9).trans (by go_simp)
    have r4:w.heap.size<wr.heap.size:=by have:=kl;have:=HB5.out;omega
    have hB6:Below w.heap.size w wr:=Below.trans (b:=more (w.alloc (.cells #[.bool false,.slice none 0 0] 62)) g1) ah (HR.out.2.mono (by rw[HB5.out];omega))
    have HB6:=Lib.hid hB6
    clear hy hB6
    go_wp2_with fail
    refine bodyPost_ret (v:=.agg #[.bool y.s,.slice y.a y.n y.cap]) (by simp[results,Tryz.results150,go_sem,r0,r1]) rfl ⟨⟨y,rfl,?_⟩,?_⟩
    ·refine(HY.out.off (Off.set wr w.heap.size 0 _) r0).off (Off.set _ w.heap.size 1 _) (c:=y.s) ?_
     exact ct _ _ _ _ _ r0
    ·have hB:=HB6.out;exact bel
end
section
open Go.RowKit
namespace DW
theorem kR{l:List Nat}{k:Nat}(h:k<l.length):l[k]?=some (l.getD k 0):=by rw[List.getD_eq_getElem?_getD,List.getElem?_eq_getElem h];rfl
theorem hd_of{l:List Nat}(h:Dg.dig 65536 l):l.take (tl l)=hd (Dg.vl 65536 l):=by
 obtain⟨h1,h2⟩:=FD h
 have:=Dg.vo (by decide) h1
 rw[h2]at this;exact this.symm
abbrev trimQ(N:Nat)(e:Exit)(s:S):Prop:=(e= .normal∨e= .ret)∧s.gt 2= .own 18∧(18,(⟨3,1,(hd N).map hN⟩:Ow))∈s.ow
set_option maxRecDepth 20000 in
set_option maxHeartbeats 1000000 in
theorem zD(X0:Nat→Prop)(l:List Nat)(hl:l.length≤900000000)(hdg:Dg.dig 65536 l):∃c,Tryz.f188.body=some c∧aW Tryz.prog X0 Tryz.f188.ntmps c (trimQ (Dg.vl 65536 l)) ⟨aA 0 [dN l],[]⟩:=by
  refine⟨_,rfl,?_⟩
  have HT:=hd_of hdg
  simp only[aA]
  (repeat(first|refine gk fun K hK=> ?_|refine zs2 ?_));refine bK ?_;(repeat(first|refine gk fun K hK=> ?_|refine zs2 ?_));(refine gar ?_;refine zs4 ?_;refine zs5 ?_;refine zs6 ?_;refine ae ?_);(repeat(first|refine gk fun K hK=> ?_|refine zs2 ?_))
  (refine aq (ai (sl':=[(0,dN l),(3,zI l.length)]) (ow':=[]) au aw) ?_)
  refine aH (fun k s=>tl l≤k∧k≤l.length∧s=⟨[(0,dN l),(3,zI k)],[]⟩) (m:=l.length) ⟨eM l,Nat.le_refl _,rfl⟩ fun k s hs=> ?_
  obtain⟨hk1,hk2,rfl⟩:=hs
  have fin':∀(K:Exit→S→Prop),k=tl l→([]++(l.map hN).take k)=(hd (Dg.vl 65536 l)).map hN:=fun _ e=>by rw[List.nil_append,←List.map_take,e,HT]
  by_cases hk0:k=0
  · subst hk0
    have ht:tl l=0:=by omega
    (repeat(first|refine gk fun K hK=> ?_|refine zs2 ?_))
    (refine gar ?_;refine zs4 ?_;refine zs7 ?_;refine zs4 ?_;refine zs8 ?_;refine zs8 ?_;refine zs9 ?_;refine zs10 ?_;refine iy ?_;refine xZ ?_;refine gJ ?_;refine ae ?_)
    (repeat(first|refine gk fun K hK=> ?_|refine zs2 ?_))
    refine kY iA (by rfl) ?_
    (repeat(first|refine gk fun K hK=> ?_|refine zs2 ?_))
    refine Ec ?_
    (repeat(first|refine gk fun K hK=> ?_|refine zs2 ?_))
    exact⟨.inr rfl,by rfl,by rw[←fin' (fun _ _=>True) ht.symm];exact List.mem_cons_self⟩
  · have hx:=kR (l:=l) (k:=k-1) (by omega)
    obtain⟨x,hxd⟩:∃x,x=l.getD (k-1) 0:=⟨_,rfl⟩
    rw[←hxd]at hx
    have hcast:(k:Int)-1=((k-1:Nat):Int):=by omega
    by_cases hx0:x=0
    · have hlt : tl l < k := by
        rcases lA l with h|h
        · omega
        · apply Nat.lt_of_le_of_ne hk1;intro e;rw[e]at h;exact h (by rw[←hxd,hx0])
      (repeat(first|refine gk fun K hK=> ?_|refine zs2 ?_))
      refine Eb ?_
      (repeat(first|refine gk fun K hK=> ?_|refine zs2 ?_))
      refine ke iA (decide_eq_true (by omega)) ?_
      (repeat(first|refine gk fun K hK=> ?_|refine zs2 ?_))
      refine nZ ?_
      simp only[nx,inB]
      exact⟨k-1,_,by omega,(ai (sl':=[(0,dN l),(3,zI (k-1:Nat))]) (ow':=[]) au aw),by omega,by omega,rfl⟩
    · have ht : k = tl l := by
        apply Nat.le_antisymm _ hk1
        apply Nat.le_of_not_lt;intro h
        exact hx0 (by rw[hxd];exact jH l (k-1) (by omega))
      (repeat(first|refine gk fun K hK=> ?_|refine zs2 ?_))
      refine Eb ?_
      (repeat(first|refine gk fun K hK=> ?_|refine zs2 ?_))
      refine kY iA (decide_eq_false (by omega)) ?_
      (repeat(first|refine gk fun K hK=> ?_|refine zs2 ?_))
      refine Ec ?_
      (repeat(first|refine gk fun K hK=> ?_|refine zs2 ?_))
      exact⟨.inr rfl,by rfl,by rw[←fin' (fun _ _=>True) ht];exact List.mem_cons_self⟩
theorem zE(l:List Nat)(hl:l.length≤900000000)(hdg:Dg.dig 65536 l):Fn Tryz.prog 188 [dN l] (dN (hd (Dg.vl 65536 l))):=by
 refine aF Tryz.func188 af rfl rfl rfl fun X0=>?_
 obtain⟨c,h1,h2⟩:=zD X0 l hl hdg
 cases h1
 refine h2.mono fun e s ⟨h3,h4,h5⟩=>?_
 have:=Gx (P:=Tryz.prog) (X0:=X0) (n:=Tryz.f188.ntmps) (fn:=Tryz.f188) (s:=s) (t:=2) rfl h4 h5
 rcases h3 with rfl|rfl<;>exact this
theorem AU(l:List Nat)(hl:l.length≤900000000)(hdg:Dg.dig 65536 l)(X:Nat→Prop)(w:World)(v:Value)(hX:XW X w)(hv:AR X w (dN l) v):Calls Tryz.prog 188 #[v] w fun e w'=>HRes w' e (Dg.vl 65536 l)∧Below w.heap.size w w':=by
 obtain⟨c,h1,h2⟩:=zD X l hl hdg
 refine Bl (ds:=[dN l]) Tryz.func188 h1 rfl rfl hX (by simp only[ATp];exact⟨v,[],rfl,hv,rfl⟩) _ h2 fun e s f a w' ⟨h3,h4,h5⟩ hh=>⟨h3,a.tmps.getD 2 undef,results_tmp rfl a.tmps _ _,⟨_,hd (Dg.vl 65536 l),rfl,?_,(Dg.bC (by decide) _).1,(Dg.bC (by decide) _).2⟩,hh.bl.low⟩
 have h6:=hh.sl 2
 rw[h4]at h6
 simp only[SR]at h6
 rw[h6]
 obtain⟨_,xs,⟨k1,k2⟩,k3⟩:=hh.ow _ h5
 simp only[List.length_map]at k1 k2 k3
 rcases k2 with⟨k4,k5⟩|⟨g,cap,cur,k4,_,hgg,hle,hm,hcs,htk⟩
 ·exact .inl ⟨k4,List.eq_nil_of_length_eq_zero k5⟩
 ·refine .inr ⟨g,cap,k4,hle,hm,(Array.getElem?_eq_some_iff.1 hgg).1,fun k x hk=>?_⟩
  have hd':((hd (Dg.vl 65536 l)).map hN)[k]?=some (hN x):=by rw[List.getElem?_map,hk];rfl
  obtain⟨u,e1,_,_,e4⟩:=Els.at k3 hd'
  simp only[AR]at e1
  have h7:=e4 0 u (by rw[dH (by rw[e1.1];rfl)];rfl)
  rw[Nat.mul_one,Nat.add_zero]at h7
  rw[cell_of_row w' g _ cur _ (0,0) hgg]
  have hlt:=(List.getElem?_eq_some_iff.1 h7).1
  rw[←htk,List.length_take]at hlt
  rw[←htk,List.getElem?_take_of_lt (by omega),Array.getElem?_toList]at h7
  rw[h7,e1.1]
theorem uJ(s:Bool)(l:List Nat)(hl:l.length≤900000000)(hdg:Dg.dig 65536 l):Fn Tryz.prog 150 [.sc (.bool s),dN l] (.nm (Dg.iv s (Dg.vl 65536 l))):=by
 refine⟨Go.Proofs.enters_of Tryz.func150 af rfl,fun X w vs hX hv=>?_⟩
 simp only[ATp]at hv
 obtain⟨v1,r1,e,h1,v2,r2,e2,h2,e3⟩:=hv
 simp only[AR]at h1
 rw[e2,e3,h1.1]at e
 have:vs= #[.bool s,v2]:=Array.toList_inj.1 e
 subst this
 exact(AV s l v2 (by omega) hdg w fun W hW=>AU l hl hdg X W v2 (hX.grow hW) (h2.grow hW)).mono fun e w' ⟨⟨x,k1,k2⟩,k3⟩=>⟨_,k1,by simp only[AR];exact⟨x,rfl,k2⟩,k3⟩
set_option maxRecDepth 20000 in
set_option maxHeartbeats 1000000 in
theorem C5(z:Int)(hz:(wds z.natAbs).length≤400000000):Fn Tryz.prog 151 [.nm z] (dN (hd z.natAbs)):=by
 refine aF Tryz.func151 af rfl rfl rfl fun X0=>?_
 simp only[aA]
 have hv:Dg.vl B32 (wds z.natAbs)=z.natAbs:=(Dg.bC (by decide) _).2
 have hdu:Dg.dig B32 (wds z.natAbs):=(Dg.bC (by decide) _).1.dg
 have hvl:Dg.vl 65536 (hw (wds z.natAbs))=z.natAbs:=by rw[EW,hv]
 have TRIM:=zE (hw (wds z.natAbs)) (by rw[uU];omega) (AS hdu)
 rw[hvl]at TRIM
 (repeat(first|refine gk fun K hK=>?_|refine zs2 ?_));(refine gar ?_;refine cK ?_;refine zs3 ?_;refine ae ?_);(repeat(first|refine gk fun K hK=>?_|refine zs2 ?_));refine bK ?_;(repeat(first|refine gk fun K hK=>?_|refine zs2 ?_));refine aQ ?_;(repeat(first|refine gk fun K hK=>?_|refine zs2 ?_))
 refine aq (b7 (t:=3) (k:=3) (T:=3) (wd:=1) b9 rfl rfl bB) ?_
 (refine aq (ai (sl':=[(1,.pt (.nm z)),(3,.own 3),(4,zI 0)]) (ow':=[(3,⟨3,1,[]⟩)]) au aw) ?_)
 refine aH (fun r s=>∃k,k≤(wds z.natAbs).length∧r=(wds z.natAbs).length-k∧s=⟨[(1,.pt (.nm z)),(3,.own 3),(4,zI k)],[(3,⟨3,1,(hw ((wds z.natAbs).take k)).map hN⟩)]⟩) (m:=(wds z.natAbs).length) ⟨0,by omega,rfl,by simp[hw]⟩ fun r s hs=>?_
 obtain⟨k,hk,rfl,rfl⟩:=hs
 by_cases hkl:k<(wds z.natAbs).length
 ·have hx:=kR hkl
  obtain⟨x,hxd⟩:∃x,x=(wds z.natAbs).getD k 0:=⟨_,rfl⟩
  rw[←hxd]at hx
  have hx32:x<4294967296:=hdu x (List.mem_of_getElem? hx)
  have hql:x/65536<65536:=by omega
  (repeat(first|refine gk fun K hK=>?_|refine zs2 ?_))
  refine gI ?_
  (repeat(first|refine gk fun K hK=>?_|refine zs2 ?_))
  refine ke iA (decide_eq_true (by omega)) ?_
  (repeat(first|refine gk fun K hK=>?_|refine zs2 ?_))
  (((first|(apply ak 16;(focus kernel_rfl);(focus(decide+kernel)))|(apply ak 15;(focus kernel_rfl);(focus(decide+kernel)))|(apply ak 14;(focus kernel_rfl);(focus(decide+kernel)))|(apply ak 13;(focus kernel_rfl);(focus(decide+kernel)))|(apply ak 12;(focus kernel_rfl);(focus(decide+kernel)))|(apply ak 11;(focus kernel_rfl);(focus(decide+kernel)))|(apply ak 10;(focus kernel_rfl);(focus(decide+kernel)))|(apply ak 9;(focus kernel_rfl);(focus(decide+kernel))));simp only[List.take_succ_cons,List.take_zero,List.drop_succ_cons,List.drop_zero]);refine a8 ?_;refine zs26 ?_;refine bq ?_;refine a8 ?_;refine dQ ?_;refine bq ?_;(first|refine cw rfl rfl rfl aa zb9 aa aa ?_|((try refine aD ?_);refine aL1 rfl rfl rfl zb9 ?_));refine zs29 ?_;refine zs26 ?_;refine bq ?_;refine a8 ?_;refine dQ ?_;refine bq ?_;(first|refine cw rfl rfl rfl aa zb8 aa aa ?_|((try refine aD ?_);refine aL1 rfl rfl rfl zb8 ?_));refine zs29 ?_;(first|refine cw rfl rfl rfl aa zb29 aa aa ?_|((try refine aD ?_);refine aL1 rfl rfl rfl zb29 ?_));((try refine aD ?_);(refine kj rfl rfl rfl rfl bf bf aU aa o3 af af (by(simp only[List.length_map,uU,List.length_take,List.length_cons,List.length_nil];omega)) bB oY ?_));refine jL ?_;refine cV ?_)
  (repeat(first|refine gk fun K hK=>?_|refine zs2 ?_))
  refine ba ?_
  simp only[nx,inB]
  refine⟨(wds z.natAbs).length-(k+1),_,by omega,(ai (sl':=[(1,.pt (.nm z)),(3,.own 3),(4,zI (k+1:Nat))]) (ow':=[(3,⟨3,1,(hw ((wds z.natAbs).take k)).map hN++[hN (x%65536),hN (x/65536)]⟩)]) au aw),k+1,by omega,rfl,?_⟩
  rw[Gu hx,List.map_append];rfl
 ·have hke:k=(wds z.natAbs).length:=by omega
  subst hke
  rw[List.take_length]
  (repeat(first|refine gk fun K hK=>?_|refine zs2 ?_))
  refine gI ?_
  (repeat(first|refine gk fun K hK=>?_|refine zs2 ?_))
  refine kY iA (decide_eq_false (by omega)) ?_
  (repeat(first|refine gk fun K hK=>?_|refine zs2 ?_))
  refine aq (aE (k:=3) aU bs br) ?_
  refine te ?_
  (repeat(first|refine gk fun K hK=>?_|refine zs2 ?_))
  exact⟨_,Sh.refl,.one (.tmp 2) _ rfl (.tmp 2 rfl)⟩
end DW
end
section
open Go.RowKit
namespace DW
theorem dJ{n k:Nat}(h:n<65536^k):(hd n).length≤k:=by
 apply Nat.le_of_not_lt
 intro hlt
 obtain⟨j,hj⟩:∃j,(hd n).length=j+1:=⟨(hd n).length-1,by omega⟩
 have h1:=Dg.gU hj (Dg.bC (by decide) n).1
 rw[show Dg.vl 65536 (hd n)=n from(Dg.bC (by decide) n).2]at h1
 have h2:=Nat.pow_le_pow_right (n:=65536) (by omega) (show k≤j by omega)
 omega
theorem kQ(n:Nat):n<65536^(hd n).length:=by
 have h:=Dg.aX (Dg.bC (b:=65536) (by decide) n).1.dg
 rw[(Dg.bC (by decide) n).2]at h;exact h
theorem eC{m n:Nat}(h:m≤n):(hd m).length≤(hd n).length:=dJ (Nat.lt_of_le_of_lt h (kQ n))
theorem Fx(n:Nat):(wds n).length≤(hd n).length:=by
 by_cases h0:(wds n).length=0
 ·omega
 ·obtain⟨j,hj⟩:∃j,(wds n).length=j+1:=⟨(wds n).length-1,by omega⟩
  have h1:=Dg.gU hj (Dg.bC (b:=4294967296) (by decide) n).1
  rw[show Dg.vl 4294967296 (wds n)=n from(Dg.bC (by decide) n).2]at h1
  have h2:(4294967296:Nat)^j=65536^(2*j):=by rw[Nat.pow_mul]
  rw[h2]at h1
  have h3:=Nat.lt_of_le_of_lt h1 (kQ n)
  have h4:=(Nat.pow_lt_pow_iff_right (by omega:1<65536)).1 h3
  omega
theorem ew(n:Nat):Dg.dig 65536 (hd n):=(Dg.bC (by decide) n).1.dg
theorem en(n:Nat):Dg.vl 65536 (hd n)=n:=(Dg.bC (by decide) n).2
theorem gZ(n:Nat):(hd n).length=0↔n=0:=by
 rw[List.length_eq_zero_iff];exact Dg.GF (by decide)
def Hf(z:Int):Prop:=(hd z.natAbs).length≤200000000
theorem Hf.neg{z:Int}(h:Hf z):Hf (-z):=by unfold Hf;rw[Int.natAbs_neg];exact h
theorem cZ{z:Int}(h:Hf z):Fn Tryz.prog 151 [.nm z] (dN (hd z.natAbs)):=C5 z (by have:=Fx z.natAbs;unfold Hf at h;omega)
theorem pY{l:List Nat}(hl:l.length≤900000000)(hdg:Dg.dig 65536 l){n:Nat}(hv:Dg.vl 65536 l=n):Fn Tryz.prog 188 [dN l] (dN (hd n)):=hv▸zE l hl hdg
theorem fE{s:Bool}{n:Nat}(h:(hd n).length≤900000000){z:Int}(hz:Dg.iv s n=z):Fn Tryz.prog 150 [.sc (.bool s),dN (hd n)] (.nm z):=by
 have:=uJ s (hd n) h (ew n)
 rw[en,hz]at this;exact this
theorem qx{z:Int}:Dg.iv (decide (z<0)) z.natAbs=z:=by unfold Dg.iv;split<;>rename_i h<;>simp at h<;>omega
theorem Ih{z:Int}:Dg.iv (!decide (z<0)) z.natAbs= -z:=by unfold Dg.iv;split<;>rename_i h<;>simp at h<;>omega
set_option maxRecDepth 20000
set_option maxHeartbeats 1000000
theorem uz(z:Int)(hz:Hf z):Fn Tryz.prog 80 [.nm z] (.nm z):=by
 have D1:=cZ hz
 have M1:=fE (s:=decide (z<0)) (n:=z.natAbs) (by unfold Hf at hz;omega) qx
 refine aF Tryz.func80 af rfl rfl rfl fun X0=>?_
 simp only[aA]
 (repeat(first|refine gk fun K hK=>?_|refine zs2 ?_));refine td ?_;(repeat(first|refine gk fun K hK=>?_|refine zs2 ?_));(refine zs35 ?_;refine oU ?_;refine bq ?_;refine bq ?_;refine lV ?_;refine gG ?_;refine tG ?_;refine cV ?_);(repeat(first|refine gk fun K hK=>?_|refine zs2 ?_))
 exact⟨_,aE (k:=2) aU bs br,.one (.cell 2 62) _ rfl (.cell 2 _ _ rfl rfl af af)⟩
theorem EO(z:Int)(hz:Hf z):Fn Tryz.prog 116 [.nm z] (.nm (-z)):=by
 have D1:=cZ hz
 have M1:=fE (s:=!decide (z<0)) (n:=z.natAbs) (by unfold Hf at hz;omega) Ih
 refine aF Tryz.func116 af rfl rfl rfl fun X0=>?_
 simp only[aA]
 (repeat(first|refine gk fun K hK=>?_|refine zs2 ?_));refine td ?_;(repeat(first|refine gk fun K hK=>?_|refine zs2 ?_));(refine zs40 ?_;refine oU ?_;refine bq ?_;(first|refine cw rfl rfl rfl aa yh aa aa ?_|((try refine aD ?_);refine aL1 rfl rfl rfl yh ?_));refine bq ?_;refine lV ?_;refine gG ?_;refine tG ?_;refine cV ?_);(repeat(first|refine gk fun K hK=>?_|refine zs2 ?_))
 exact⟨_,aE (k:=2) aU bs br,.one (.cell 2 62) _ rfl (.cell 2 _ _ rfl rfl af af)⟩
theorem jf(z:Int)(hz:Hf z):Fn Tryz.prog 106 [.nm z] (zI (sgn z)):=by
 have D1:=cZ hz
 refine aF Tryz.func106 af rfl rfl rfl fun X0=>?_
 simp only[aA]
 by_cases h0:z=0
 ·have hl:(hd z.natAbs).length=0:=(gZ _).2 (by omega)
  (repeat(first|refine gk fun K hK=>?_|refine zs2 ?_));refine nY ?_;(repeat(first|refine gk fun K hK=>?_|refine zs2 ?_));(refine gar ?_;refine aJ ?_;refine bL ?_;refine zs5 ?_;refine oT ?_;refine ae ?_);(repeat(first|refine gk fun K hK=>?_|refine zs2 ?_))
  refine ke iA (decide_eq_true (by omega)) ?_
  (repeat(first|refine gk fun K hK=>?_|refine zs2 ?_));refine aQ ?_;(repeat(first|refine gk fun K hK=>?_|refine zs2 ?_))
  rw[show sgn z=0 by unfold sgn;rw[if_pos h0]]
  exact⟨_,Sh.refl,.one (.tmp 2) _ rfl (.tmp 2 rfl)⟩
 ·have hl:(hd z.natAbs).length≠0:=fun e=>h0 (by have:=(gZ _).1 e;omega)
  (repeat(first|refine gk fun K hK=>?_|refine zs2 ?_));refine nY ?_;(repeat(first|refine gk fun K hK=>?_|refine zs2 ?_));(refine gar ?_;refine aJ ?_;refine bL ?_;refine zs5 ?_;refine oT ?_;refine ae ?_);(repeat(first|refine gk fun K hK=>?_|refine zs2 ?_))
  refine kY iA (decide_eq_false (by omega)) ?_
  (repeat(first|refine gk fun K hK=>?_|refine zs2 ?_));refine xV ?_;(repeat(first|refine gk fun K hK=>?_|refine zs2 ?_))
  by_cases h1:z<0
  ·refine ke iA (decide_eq_true (by omega)) ?_
   (repeat(first|refine gk fun K hK=>?_|refine zs2 ?_));refine aQ ?_;(repeat(first|refine gk fun K hK=>?_|refine zs2 ?_))
   rw[show sgn z= -1 by unfold sgn;rw[if_neg (by omega),if_pos h1]]
   exact⟨_,Sh.refl,.one (.tmp 2) _ rfl (.tmp 2 rfl)⟩
  ·refine kY iA (decide_eq_false (by omega)) ?_
   (repeat(first|refine gk fun K hK=>?_|refine zs2 ?_));refine aQ ?_;(repeat(first|refine gk fun K hK=>?_|refine zs2 ?_))
   rw[show sgn z=1 by unfold sgn;rw[if_neg (by omega),if_neg (by omega)]]
   exact⟨_,Sh.refl,.one (.tmp 2) _ rfl (.tmp 2 rfl)⟩
end DW
end
section
open Go.RowKit
namespace DW
theorem Fz{b:Nat}(l:List Nat)(x:Nat):Dg.vl b (l++[x])=Dg.vl b l+b^l.length*x:=by rw[Dg.b8];simp[Dg.vl]
theorem j8{b:Nat}{l:List Nat}{x:Nat}(h:Dg.dig b l)(hx:x<b):Dg.dig b (l++[x]):=Dg.ij h fun y hy=>by
 rw[List.mem_singleton.1 hy];exact hx
theorem jU(l:List Nat)(x:Nat):(l++[x]).map hN=l.map hN++[hN x]:=by rw[List.map_append];rfl
theorem Ap{l:List Nat}{m:Nat}(h:65536^l.length*m<65536^4)(hm:0<m):l.length<4:=by
 have h1:65536^l.length≤65536^l.length*m:=Nat.le_mul_of_pos_right _ hm
 exact(Nat.pow_lt_pow_iff_right (by omega:1<65536)).1 (Nat.lt_of_le_of_lt h1 h)
theorem wH(l:List Nat)(m:Nat):Dg.vl 65536 (l++[m%65536])+65536^(l++[m%65536]).length*(m/65536)=Dg.vl 65536 l+65536^l.length*m:=by
 rw[Fz,List.length_append,List.length_singleton,Nat.pow_succ,Nat.mul_assoc,Nat.add_assoc,←Nat.mul_add]
 congr 2
 omega
set_option maxRecDepth 20000
set_option maxHeartbeats 1000000
theorem pe(z:Int)(hz: -9223372036854775808≤z∧z≤9223372036854775807):Fn Tryz.prog 81 [zI z] (.nm z):=by
  refine aF Tryz.func81 af rfl rfl rfl fun X0=> ?_
  simp only[aA]
  have hb:z.natAbs<65536^4:=by rw[show(65536:Nat)^4=18446744073709551616 by rfl];omega
  (repeat(first|refine gk fun K hK=> ?_|refine zs2 ?_));(refine gar ?_;refine zs34 ?_;refine ae ?_);(repeat(first|refine gk fun K hK=> ?_|refine zs2 ?_));refine bK ?_;(repeat(first|refine gk fun K hK=> ?_|refine zs2 ?_));(refine gar ?_;refine zs4 ?_;refine zs7 ?_;refine zs6 ?_;refine ae ?_);(repeat(first|refine gk fun K hK=> ?_|refine zs2 ?_))
  refine aq (b7 (t:=3) (k:=3) (T:=3) (wd:=1) b9 rfl rfl bB) ?_
  by_cases hn:z<0
  · have M : ∀ l : List Nat, Dg.vl 65536 l = z.natAbs → Dg.dig 65536 l → l.length ≤ 4 → Fn Tryz.prog 150 [.sc (.bool (decide (z < 0))), dN l] (.nm z) := fun l h1 h2 h3 => by
      have:=uJ (decide (z<0)) l (by omega) h2
      rwa[h1,qx]at this
    (refine aq (ai (sl':=[(0,zI (-((z.natAbs:Nat):Int))),(2, .opt 2 0),(3, .own 3),(4, .sc (.bool (decide (z<0))))]) (ow':=[(3,⟨3,1,[]⟩),(2,⟨62,2,[.nm 0]⟩)]) au aw) ?_)
    refine aH (fun r s=>∃l,Dg.dig 65536 l∧l.length≤4∧Dg.vl 65536 l+65536^l.length*r=z.natAbs∧r≤9223372036854775808∧s=⟨[(0,zI (-(r:Int))),(2, .opt 2 0),(3, .own 3),(4, .sc (.bool (decide (z<0))))],[(3,⟨3,1,l.map hN⟩),(2,⟨62,2,[.nm 0]⟩)]⟩) (m:=z.natAbs) ⟨[],fun _ h=>(by cases h),by simp,by simp[Dg.vl],by omega,rfl⟩ fun r s hs=> ?_
    obtain⟨l,h1,h2,h3,h4,rfl⟩:=hs
    by_cases hr:r=0
    · subst hr
      (repeat(first|refine gk fun K hK=> ?_|refine zs2 ?_));refine cB ?_;(repeat(first|refine gk fun K hK=> ?_|refine zs2 ?_))
      refine ay ?_
      (repeat(first|refine gk fun K hK=> ?_|refine zs2 ?_))
      refine aq (aE (k:=3) aU bs br) ?_
      (refine gar ?_;refine zs4 ?_;refine zs4 ?_;refine zs45 ?_;refine eJ ?_;refine ae ?_)
      (repeat(first|refine gk fun K hK=> ?_|refine zs2 ?_))
      exact⟨_,aE (k:=2) aU bs br, .one (.cell 2 62) _ rfl (.cell 2 _ _ rfl rfl af af)⟩
    · have hl:=Ap (l:=l) (m:=r) (by omega) (by omega)
      have e1:(-(r:Int)).tmod 65536= -((r%65536:Nat):Int):=by rw[Int.neg_tmod];rfl
      have e2:(-(r:Int)).tdiv 65536= -((r/65536:Nat):Int):=by rw[Int.neg_tdiv];rfl
      have h5:=wH l r
      have h6:=j8 h1 (Nat.mod_lt r (by omega:0<65536))
      have h7:(l++[r%65536]).length=l.length+1:=by simp
      have h8:=jU l (r%65536)
      (repeat(first|refine gk fun K hK=> ?_|refine zs2 ?_));refine cB ?_;(repeat(first|refine gk fun K hK=> ?_|refine zs2 ?_))
      refine av ?_
      by_cases hd0:r%65536=0
      all_goals
        (repeat(first|refine gk fun K hK=> ?_|refine zs2 ?_));(refine gar ?_;refine zs4 ?_;refine xD ?_;refine zs6 ?_;refine ae ?_);(repeat(first|refine gk fun K hK=> ?_|refine zs2 ?_));refine dX ?_;(repeat(first|refine gk fun K hK=> ?_|refine zs2 ?_))
        (first|(refine av ?_;(repeat(first|refine gk fun K hK=> ?_|refine zs2 ?_));(refine gar ?_;refine zs4 ?_;(refine aL1 rfl rfl rfl (by(apply d_neg;(focus(exact rfl));(focus((apply ao;(conv=>lhs;whnf);(first|done|exact rfl))));(focus(omega)))) ?_);refine zs6 ?_;refine ae ?_);(repeat(first|refine gk fun K hK=> ?_|refine zs2 ?_)))|(refine ay ?_;(repeat(first|refine gk fun K hK=> ?_|refine zs2 ?_))))
        (refine aq (ai (sl':=[(0,zI (-(r:Int))),(2, .opt 2 0),(3, .own 3),(4, .sc (.bool (decide (z<0)))),(5,hN (r%65536))]) (ow':=[(3,⟨3,1,l.map hN⟩),(2,⟨62,2,[.nm 0]⟩)]) au aw) ?_)
        (repeat(first|refine gk fun K hK=> ?_|refine zs2 ?_));refine pP ?_;(repeat(first|refine gk fun K hK=> ?_|refine zs2 ?_));refine pO ?_;(repeat(first|refine gk fun K hK=> ?_|refine zs2 ?_))
        simp only[nx,inB]
        exact⟨r/65536,_,by omega,(ai (sl':=[(0,zI (-((r/65536:Nat):Int))),(2, .opt 2 0),(3, .own 3),(4, .sc (.bool (decide (z<0))))]) (ow':=[(3,⟨3,1,l.map hN++[hN (r%65536)]⟩),(2,⟨62,2,[.nm 0]⟩)]) au aw),l++[r%65536],h6,by omega,by omega,by omega,by rw[h8]⟩
  · have M : ∀ l : List Nat, Dg.vl 65536 l = z.natAbs → Dg.dig 65536 l → l.length ≤ 4 → Fn Tryz.prog 150 [.sc (.bool (decide (z < 0))), dN l] (.nm z) := fun l h1 h2 h3 => by
      have:=uJ (decide (z<0)) l (by omega) h2
      rwa[h1,qx]at this
    (refine aq (ai (sl':=[(0,zI ((z.natAbs:Nat):Int)),(2, .opt 2 0),(3, .own 3),(4, .sc (.bool (decide (z<0))))]) (ow':=[(3,⟨3,1,[]⟩),(2,⟨62,2,[.nm 0]⟩)]) au aw) ?_)
    refine aH (fun r s=>∃l,Dg.dig 65536 l∧l.length≤4∧Dg.vl 65536 l+65536^l.length*r=z.natAbs∧r≤9223372036854775807∧s=⟨[(0,zI (r:Int)),(2, .opt 2 0),(3, .own 3),(4, .sc (.bool (decide (z<0))))],[(3,⟨3,1,l.map hN⟩),(2,⟨62,2,[.nm 0]⟩)]⟩) (m:=z.natAbs) ⟨[],fun _ h=>(by cases h),by simp,by simp[Dg.vl],by omega,rfl⟩ fun r s hs=> ?_
    obtain⟨l,h1,h2,h3,h4,rfl⟩:=hs
    by_cases hr:r=0
    · subst hr
      (repeat(first|refine gk fun K hK=> ?_|refine zs2 ?_));refine cB ?_;(repeat(first|refine gk fun K hK=> ?_|refine zs2 ?_))
      refine ay ?_
      (repeat(first|refine gk fun K hK=> ?_|refine zs2 ?_))
      refine aq (aE (k:=3) aU bs br) ?_
      (refine gar ?_;refine zs4 ?_;refine zs4 ?_;refine zs45 ?_;refine eJ ?_;refine ae ?_)
      (repeat(first|refine gk fun K hK=> ?_|refine zs2 ?_))
      exact⟨_,aE (k:=2) aU bs br, .one (.cell 2 62) _ rfl (.cell 2 _ _ rfl rfl af af)⟩
    · have hl:=Ap (l:=l) (m:=r) (by omega) (by omega)
      have h5:=wH l r
      have h6:=j8 h1 (Nat.mod_lt r (by omega:0<65536))
      have h7:(l++[r%65536]).length=l.length+1:=by simp
      have h8:=jU l (r%65536)
      (repeat(first|refine gk fun K hK=> ?_|refine zs2 ?_));refine cB ?_;(repeat(first|refine gk fun K hK=> ?_|refine zs2 ?_))
      refine av ?_
      (repeat(first|refine gk fun K hK=> ?_|refine zs2 ?_));(refine gar ?_;refine zs4 ?_;refine xD ?_;refine zs6 ?_;refine ae ?_);(repeat(first|refine gk fun K hK=> ?_|refine zs2 ?_));refine dX ?_;(repeat(first|refine gk fun K hK=> ?_|refine zs2 ?_))
      refine ay ?_
      (repeat(first|refine gk fun K hK=> ?_|refine zs2 ?_));refine pP ?_;(repeat(first|refine gk fun K hK=> ?_|refine zs2 ?_));refine pO ?_;(repeat(first|refine gk fun K hK=> ?_|refine zs2 ?_))
      simp only[nx,inB]
      exact⟨r/65536,_,by omega,(ai (sl':=[(0,hN (r/65536)),(2, .opt 2 0),(3, .own 3),(4, .sc (.bool (decide (z<0))))]) (ow':=[(3,⟨3,1,l.map hN++[hN (r%65536)]⟩),(2,⟨62,2,[.nm 0]⟩)]) au aw),l++[r%65536],h6,by omega,by omega,by omega,by rw[h8]⟩
end DW
end
section
open Go.RowKit
namespace DW
theorem Ir{a b:Nat}(h:hd a=hd b):a=b:=by rw[←en a,←en b,h]
theorem sI{a b:Nat}(h:(hd a).length<(hd b).length):a<b:=by
 have:=Dg.eX (b:=65536) (by decide) (Dg.bC (by decide) a).1 (Dg.bC (by decide) b).1 h
 rwa[(Dg.bC (by decide) a).2,(Dg.bC (by decide) b).2]at this
theorem AY{a b i:Nat}(hi:i<(hd a).length)(hl:(hd a).length=(hd b).length)(hd':(hd a).drop (i+1)=(hd b).drop (i+1))(h:(hd a).getD i 0<(hd b).getD i 0):a<b:=by
 have:=Dg.lex_lt (ew a) hi hl hd' h
 rwa[en,en]at this
theorem wQ{a i:Nat}(hi:i<(hd a).length):(hd a).drop i=(hd a).getD i 0::(hd a).drop (i+1):=by
 rw[List.drop_eq_getElem_cons hi,List.getD_eq_getElem?_getD,List.getElem?_eq_getElem hi];rfl
theorem jV{a i:Nat}(hi:i<(hd a).length):(hd a)[i]?=some ((hd a).getD i 0):=kR hi
theorem oE{l:List Nat}{i:Nat}(h:l.length≤i):l.getD i 0=0:=by rw[List.getD_eq_getElem?_getD,List.getElem?_eq_none h];rfl
set_option maxRecDepth 20000
set_option maxHeartbeats 1000000
theorem AI(a b:Nat)(ha:(hd a).length≤900000000)(hb:(hd b).length≤900000000):Fn Tryz.prog 153 [dN (hd a),dN (hd b)] (.sc (.bool (decide (a<b)))):=by
  refine aF Tryz.func153 af rfl rfl rfl fun X0=> ?_
  simp only[aA]
  by_cases hl:(hd a).length=(hd b).length
  · (repeat(first|refine gk fun K hK=> ?_|refine zs2 ?_));refine cj ?_;(repeat(first|refine gk fun K hK=> ?_|refine zs2 ?_));refine ta ?_;(repeat(first|refine gk fun K hK=> ?_|refine zs2 ?_))
    refine ay ?_
    (repeat(first|refine gk fun K hK=> ?_|refine zs2 ?_));refine xU ?_;(repeat(first|refine gk fun K hK=> ?_|refine zs2 ?_))
    (refine aq (ai (sl':=[(0,dN (hd a)),(1,dN (hd b)),(5,zI ((hd a).length-1))]) (ow':=[]) au aw) ?_)
    refine aH (fun r s=>r≤(hd a).length∧(hd a).drop r=(hd b).drop r∧s=⟨[(0,dN (hd a)),(1,dN (hd b)),(5,zI (r-1))],[]⟩) (m:=(hd a).length) ⟨Nat.le_refl _,by rw[List.drop_length,hl,List.drop_length],rfl⟩ fun r s hs=> ?_
    obtain⟨h1,h2,rfl⟩:=hs
    by_cases hr:r=0
    · have e:a=b:=Ir (by subst hr;simpa using h2)
      (repeat(first|refine gk fun K hK=> ?_|refine zs2 ?_));refine dX ?_;(repeat(first|refine gk fun K hK=> ?_|refine zs2 ?_))
      refine ay ?_
      (repeat(first|refine gk fun K hK=> ?_|refine zs2 ?_));refine cj ?_;(repeat(first|refine gk fun K hK=> ?_|refine zs2 ?_))
      rw[show decide (a<b)=false from decide_eq_false (by omega)]
      exact⟨_,Sh.refl, .one (.tmp 4) _ rfl (.tmp 4 rfl)⟩
    · obtain⟨i,rfl⟩:∃i,r=i+1:=⟨r-1,by omega⟩
      have hi:i<(hd a).length:=by omega
      have hi':i<(hd b).length:=by omega
      have hx:=jV hi
      have hy:=jV hi'
      have hc:((i+1:Nat):Int)-1=(i:Int):=by omega
      have k1:=wQ hi
      have k2:=wQ hi'
      have k3:(hd a).getD i 0<(hd b).getD i 0→a<b:=AY hi hl h2
      have k4:(hd b).getD i 0<(hd a).getD i 0→b<a:=AY hi' hl.symm h2.symm
      obtain⟨x,hxd⟩:∃x,x=(hd a).getD i 0:=⟨_,rfl⟩
      obtain⟨y,hyd⟩:∃y,y=(hd b).getD i 0:=⟨_,rfl⟩
      rw[←hxd]at hx k1 k3 k4
      rw[←hyd]at hy k2 k3 k4
      by_cases hxy:x=y
      · have k5:(hd a).drop i=(hd b).drop i:=by rw[k1,k2,hxy,h2]
        (repeat(first|refine gk fun K hK=> ?_|refine zs2 ?_));refine dX ?_;(repeat(first|refine gk fun K hK=> ?_|refine zs2 ?_))
        refine av ?_
        (repeat(first|refine gk fun K hK=> ?_|refine zs2 ?_));refine Ea ?_;(repeat(first|refine gk fun K hK=> ?_|refine zs2 ?_))
        refine ay ?_
        (repeat(first|refine gk fun K hK=> ?_|refine zs2 ?_));refine nZ ?_;(repeat(first|refine gk fun K hK=> ?_|refine zs2 ?_))
        simp only[nx,inB]
        exact⟨i,_,by omega,(ai (sl':=[(0,dN (hd a)),(1,dN (hd b)),(5,zI ((i:Int)-1))]) (ow':=[]) au aw),by omega,k5,rfl⟩
      · have k5 : decide ((x : Int) < (y : Int)) = decide (a < b) := by
          by_cases h:x<y
          · rw[decide_eq_true (by omega),decide_eq_true (k3 h)]
          · rw[decide_eq_false (by omega),decide_eq_false (by have:=k4 (by omega);omega)]
        (repeat(first|refine gk fun K hK=> ?_|refine zs2 ?_));refine dX ?_;(repeat(first|refine gk fun K hK=> ?_|refine zs2 ?_))
        refine av ?_
        (repeat(first|refine gk fun K hK=> ?_|refine zs2 ?_));refine Ea ?_;(repeat(first|refine gk fun K hK=> ?_|refine zs2 ?_))
        refine av ?_
        (repeat(first|refine gk fun K hK=> ?_|refine zs2 ?_));(refine zs58 ?_;refine a8 ?_;refine a8 ?_;refine xB ?_;refine xA ?_;refine a8 ?_;refine a8 ?_;refine xB ?_;refine xA ?_;(first|refine cw rfl rfl rfl aa yi aa aa ?_|((try refine aD ?_);refine aL1 rfl rfl rfl yi ?_));refine jL ?_;refine cV ?_);(repeat(first|refine gk fun K hK=> ?_|refine zs2 ?_))
        rw[←k5]
        exact⟨_,Sh.refl, .one (.tmp 4) _ rfl (.tmp 4 rfl)⟩
  · have k5 : decide (((hd a).length : Int) < ((hd b).length : Int)) = decide (a < b) := by
      by_cases h:(hd a).length<(hd b).length
      · rw[decide_eq_true (by omega),decide_eq_true (sI h)]
      · rw[decide_eq_false (by omega),decide_eq_false (by have:=sI (a:=b) (b:=a) (by omega);omega)]
    (repeat(first|refine gk fun K hK=> ?_|refine zs2 ?_));refine cj ?_;(repeat(first|refine gk fun K hK=> ?_|refine zs2 ?_));refine ta ?_;(repeat(first|refine gk fun K hK=> ?_|refine zs2 ?_))
    refine av ?_
    (repeat(first|refine gk fun K hK=> ?_|refine zs2 ?_));(refine gar ?_;refine zs4 ?_;refine zs5 ?_;refine zs4 ?_;refine zs5 ?_;refine jn ?_;refine zs6 ?_;refine ae ?_);(repeat(first|refine gk fun K hK=> ?_|refine zs2 ?_))
    rw[←k5]
    exact⟨_,Sh.refl, .one (.tmp 4) _ rfl (.tmp 4 rfl)⟩
theorem Ai{a b o:List Nat}{i c:Nat}(hi:o.length=i)(h:Dg.vl 65536 o+c*65536^i=Dg.vl 65536 (a.take i)+Dg.vl 65536 (b.take i)):
  Dg.vl 65536 (o++[(c+a.getD i 0+b.getD i 0)%65536])+(c+a.getD i 0+b.getD i 0)/65536*65536^(i+1)=Dg.vl 65536 (a.take (i+1))+Dg.vl 65536 (b.take (i+1)):=by
 have:=Dg.kH (B:=65536) (a:=a) (b:=b) (o:=o++[0]) (i:=i) (c:=c) bW zb52
 rw[show a.getD i 0+b.getD i 0+c=c+a.getD i 0+b.getD i 0 by omega,Dg.fU bW,List.take_append_of_le_length (by omega),List.take_of_length_le (by omega)]at this
 exact this
theorem wC(a b:Nat)(ha:(hd a).length≤400000000)(hb:(hd b).length≤400000000):Fn Tryz.prog 152 [dN (hd a),dN (hd b)] (dN (hd (a+b))):=by
  refine aF Tryz.func152 af rfl rfl rfl fun X0=> ?_
  simp only[aA]
  (repeat(first|refine gk fun K hK=> ?_|refine zs2 ?_));refine bK ?_;(repeat(first|refine gk fun K hK=> ?_|refine zs2 ?_));refine bK ?_;(repeat(first|refine gk fun K hK=> ?_|refine zs2 ?_));refine aQ ?_;(repeat(first|refine gk fun K hK=> ?_|refine zs2 ?_));refine aQ ?_;(repeat(first|refine gk fun K hK=> ?_|refine zs2 ?_))
  refine aq (b7 (t:=5) (k:=5) (T:=3) (wd:=1) b9 rfl rfl bB) ?_
  (refine aq (ai (sl':=[(0,dN (hd a)),(1,dN (hd b)),(5, .own 5),(6,zI 0),(7,zI 0)]) (ow':=[(5,⟨3,1,[]⟩)]) au aw) ?_)
  obtain⟨M,hM⟩:∃M,M=max (hd a).length (hd b).length:=⟨_,rfl⟩
  refine aH (fun r s=>∃i o c,r=M+1-i∧o.length=i∧Dg.dig 65536 o∧c≤1∧(i≤M∨(i≤M+1∧c=0))∧Dg.vl 65536 o+c*65536^i=Dg.vl 65536 ((hd a).take i)+Dg.vl 65536 ((hd b).take i)∧s=⟨[(0,dN (hd a)),(1,dN (hd b)),(5, .own 5),(6,zI (c:Nat)),(7,zI (i:Nat))],[(5,⟨3,1,o.map hN⟩)]⟩) (m:=M+1) ⟨0,[],0,by omega,rfl,fun _ h=>(by cases h),by omega, .inl (by omega),by simp[Dg.vl],rfl⟩ fun r s hs=> ?_
  obtain⟨i,o,c,rfl,ho,hdo,hc,hiM,hv,rfl⟩:=hs
  have STEP:=Ai (a:=hd a) (b:=hd b) ho hv
  have hxl:(hd a).getD i 0<65536:=Dg.aS (ew a) (by decide) i
  have hyl:(hd b).getD i 0<65536:=Dg.aS (ew b) (by decide) i
  have hx:i<(hd a).length→(hd a)[i]?=some ((hd a).getD i 0):=jV
  have hy:i<(hd b).length→(hd b)[i]?=some ((hd b).getD i 0):=jV
  have hx0:(hd a).length≤i→(hd a).getD i 0=0:=oE
  have hy0:(hd b).length≤i→(hd b).getD i 0=0:=oE
  obtain⟨x,hxd⟩:∃x,x=(hd a).getD i 0:=⟨_,rfl⟩
  obtain⟨y,hyd⟩:∃y,y=(hd b).getD i 0:=⟨_,rfl⟩
  rw[←hxd]at STEP hxl hx hx0
  rw[←hyd]at STEP hyl hy hy0
  have hdig:=j8 hdo (Nat.mod_lt (c+x+y) (by omega:0<65536))
  have hms:=jU o ((c+x+y)%65536)
  have hlen:(o++[(c+x+y)%65536]).length=i+1:=by simp[ho]
  have kx:(hd a).length≤M:=by omega
  have ky:(hd b).length≤M:=by omega
  have kM:M≤(hd a).length∨M≤(hd b).length:=by omega
  have kM2:M≤400000000:=by omega
  clear hM hxd hyd
  by_cases hend:M≤i∧c=0
  · obtain⟨h1,h2⟩:=hend
    have e:Dg.vl 65536 o=a+b:=by
      subst h2
      rw[List.take_of_length_le (by omega),List.take_of_length_le (by omega),en,en]at hv
      omega
    have T:=pY (l:=o) (by omega) hdo e
    (repeat(first|refine gk fun K hK=> ?_|refine zs2 ?_));refine D0 ?_;(repeat(first|refine gk fun K hK=> ?_|refine zs2 ?_))
    refine ay ?_
    (repeat(first|refine gk fun K hK=> ?_|refine zs2 ?_))
    refine aq (aE (k:=5) aU bs br) ?_
    refine te ?_
    (repeat(first|refine gk fun K hK=> ?_|refine zs2 ?_))
    exact⟨_,Sh.refl, .one (.tmp 4) _ rfl (.tmp 4 rfl)⟩
  · have hcases:((i<(hd a).length)∨(i<(hd b).length∧(hd a).length≤i))∨(c>0∧(hd a).length≤i∧(hd b).length≤i):=by omega
    have hxe:i<(hd a).length∨((hd a).length≤i∧x=0):=by
      by_cases h:i<(hd a).length
      · exact .inl h
      · exact .inr ⟨by omega,hx0 (by omega)⟩
    have hye:i<(hd b).length∨((hd b).length≤i∧y=0):=by
      by_cases h:i<(hd b).length
      · exact .inl h
      · exact .inr ⟨by omega,hy0 (by omega)⟩
    rcases hcases with(h1|⟨h1,h2⟩)|⟨h1,h2,h3⟩
    all_goals
      rcases hxe with h4|⟨h4,h5⟩
      all_goals
        rcases hye with h6|⟨h6,h7⟩
        all_goals
          first
            |(exfalso;omega;done)
            | ((repeat (first | refine gk fun K hK => ?_ | refine zs2 ?_)); refine D0 ?_; (repeat (first | refine gk fun K hK => ?_ | refine zs2 ?_))
               refine av ?_
               (repeat(first|refine gk fun K hK=> ?_|refine zs2 ?_));refine bh ?_;(repeat(first|refine gk fun K hK=> ?_|refine zs2 ?_))
               (first|(refine av ?_;(repeat(first|refine gk fun K hK=> ?_|refine zs2 ?_));(refine gar ?_;refine zs4 ?_;refine zs4 ?_;refine zs4 ?_;(refine aL1 rfl rfl rfl (by(first|(apply ig;(focus(exact rfl));(focus((apply ao;(conv=>lhs;whnf);(first|done|exact rfl))));(focus((apply ao;(conv=>lhs;whnf);(first|done|exact rfl))));(focus(kernel_rfl));(focus(kernel_rfl));(focus(omega));(focus((first|(apply get_map;exact hx h4)|(apply get_map;assumption)|(apply get_own;assumption)))))|(apply eE;(focus(exact rfl));(focus((apply ao;(conv=>lhs;whnf);(first|done|exact rfl))));(focus((apply ao;(conv=>lhs;whnf);(first|done|exact rfl))));(focus((repeat(first|exact List.mem_cons_self|refine List.mem_cons_of_mem _ ?_))));(focus(kernel_rfl));(focus(kernel_rfl));(focus(first|omega|(simp;omega)));(focus(first|(apply iG;assumption)|exact rfl))))) ?_);(refine aL1 rfl rfl rfl (by(first|(apply qJ;(focus(exact rfl));(focus((apply ao;(conv=>lhs;whnf);(first|done|exact rfl))));(focus(exact rfl));(focus((first|exact ed|exact dY|exact ea|exact wd_pt|exact rfl)));(focus(exact rfl));(focus(kernel_rfl));(focus(kernel_rfl)))|(apply ik;(focus(exact rfl));(focus((apply ao;(conv=>lhs;whnf);(first|done|exact rfl))));(focus((repeat(first|exact List.mem_cons_self|refine List.mem_cons_of_mem _ ?_))));(focus(exact gB));(focus(exact rfl));(focus(exact rfl));(focus((first|exact ed|exact dY|exact ea|exact wd_pt|exact rfl)));(focus(exact rfl));(focus(kernel_rfl));(focus(kernel_rfl)))|(apply jb;(focus(exact rfl));(focus((apply ao;(conv=>lhs;whnf);(first|done|exact rfl))));(focus((repeat(first|exact List.mem_cons_self|refine List.mem_cons_of_mem _ ?_))));(focus(exact rfl));(focus((first|exact gB|(apply mL;assumption)|assumption|(apply get_map;exact hx h4)|exact rfl)));(focus(exact rfl));(focus((first|exact ed|exact dY|exact ea|exact wd_pt|exact rfl)));(focus(exact rfl));(focus(kernel_rfl));(focus(kernel_rfl))))) ?_);refine m7 ?_;refine zs6 ?_;refine ae ?_);(repeat(first|refine gk fun K hK=> ?_|refine zs2 ?_)))|(refine ay ?_;(repeat(first|refine gk fun K hK=> ?_|refine zs2 ?_))))
               (repeat(first|refine gk fun K hK=> ?_|refine zs2 ?_));refine bh ?_;(repeat(first|refine gk fun K hK=> ?_|refine zs2 ?_))
               (first|(refine av ?_;(repeat(first|refine gk fun K hK=> ?_|refine zs2 ?_));(refine gar ?_;refine zs4 ?_;refine zs4 ?_;refine zs4 ?_;refine zs64 ?_;refine zs65 ?_;refine m7 ?_;refine zs6 ?_;refine ae ?_);(repeat(first|refine gk fun K hK=> ?_|refine zs2 ?_)))|(refine ay ?_;(repeat(first|refine gk fun K hK=> ?_|refine zs2 ?_))))
               (refine aq (ai (sl':=[(0,dN (hd a)),(1,dN (hd b)),(5, .own 5),(6,zI ((c+x+y:Nat):Int)),(7,zI (i:Nat))]) (ow':=[(5,⟨3,1,o.map hN⟩)]) au aw) ?_)
               (repeat(first|refine gk fun K hK=> ?_|refine zs2 ?_));(refine gar ?_;refine zs4 ?_;refine zs4 ?_;refine xD ?_;refine jk ?_;refine tF ?_;refine zs6 ?_;refine ae ?_);(repeat(first|refine gk fun K hK=> ?_|refine zs2 ?_));refine pO ?_;(repeat(first|refine gk fun K hK=> ?_|refine zs2 ?_));refine ba ?_;(repeat(first|refine gk fun K hK=> ?_|refine zs2 ?_))
               simp only[nx,inB]
               exact⟨M+1-(i+1),_,by omega,(ai (sl':=[(0,dN (hd a)),(1,dN (hd b)),(5, .own 5),(6,zI (((c+x+y)/65536:Nat):Int)),(7,zI ((i+1:Nat):Int))]) (ow':=[(5,⟨3,1,o.map hN++[hN ((c+x+y)%65536)]⟩)]) au aw),i+1,o++[(c+x+y)%65536],(c+x+y)/65536,rfl,hlen,hdig,by omega,by omega,STEP,by rw[hms]⟩)
end DW
end
end Go.Proofs.YtcgjmdpcplhanaaGreat
