/- Lemmas for the law: E1 E2 E3 E4 -/
import Derived.Test.YtcgjmdpcplhanaaGreatZn2
namespace Go.Proofs.YtcgjmdpcplhanaaGreat
theorem zb33 {p : Prop} (h : p:=by first | exact rfl | (apply nw_map;intro _;exact rfl) | (apply nw_take;apply nw_map;intro _;exact rfl) | (apply nw_drop;apply nw_map;intro _;exact rfl) | (simp [D.nw];done)) : p:=h
theorem zb53 {p : Prop} (h : p:=by (repeat (first | exact upd_nil | apply upd_hit | (apply upd_miss;(focus (exact rfl)))))) : p:=h
theorem zb42 {p : Prop} (h : p:=by (repeat (first | exact kill_nil | (apply kill_keep;(focus (exact rfl))) | (apply kill_hit;(focus (exact rfl)))))) : p:=h
theorem zb102 {p : Prop} (h : p:=by exact rfl) : p:=h
theorem zb57 {p : Prop} (h : p:=by (repeat (first | exact List.mem_cons_self | refine List.mem_cons_of_mem _ ?_))) : p:=h
theorem zb61 {p : Prop} (h : p:=by (apply op_b;(conv=>lhs;whnf);(first | done | exact rfl))) : p:=h
theorem zs51 {p q : Prop} (h : q) (f : Wq q→p:=by (intro hW;((refine aLappA rfl rfl rfl rfl zb61 zb61 zb57 zb102 zb33 zb101 zb101 (by (simp only [List.length_map,List.length_cons,List.length_nil];omega)) zb42 zb53 ?_));exact hW.out)) : p:=f ⟨h⟩
theorem zb43 {p : Prop} (h : p:=by (apply d_assign;(focus (exact rfl));(focus ((apply op_b;(conv=>lhs;whnf);(first | done | exact rfl)))))) : p:=h
theorem zs6 {p q : Prop} (h : q) (f : Wq q→p:=by (intro hW;(refine aL1 rfl rfl rfl zb43 ?_);exact hW.out)) : p:=f ⟨h⟩
theorem zb45 {p : Prop} (h : p:=by (apply d_move;(focus (exact rfl));(focus ((apply op_b;(conv=>lhs;whnf);(first | done | exact rfl)))))) : p:=h
theorem zs4 {p q : Prop} (h : q) (f : Wq q→p:=by (intro hW;(refine aL1 rfl rfl rfl zb45 ?_);exact hW.out)) : p:=f ⟨h⟩
theorem zb23 {p : Prop} (h : p:=by (apply d_lit;(focus (exact rfl));(focus ((apply op_b;(conv=>lhs;whnf);(first | done | exact rfl))));(focus (exact rfl));(focus ((first | exact wd_ls | exact wd_sc | exact wd_nm | exact wd_pt | exact rfl)));(focus (kernel_rfl));(focus (kernel_rfl));(focus (exact rfl));(focus (exact rfl)))) : p:=h
theorem zs50 {p q : Prop} (h : q) (f : Wq q→p:=by (intro hW;(refine aL1 rfl rfl rfl zb23 ?_);exact hW.out)) : p:=f ⟨h⟩
theorem zs158 {p q : Prop} (h : q) (f : Wq q→p:=by (intro hW;((refine gar ?_;refine zs4 ?_;refine zs4 ?_;refine zs50 ?_;refine zs51 ?_;refine zs6 ?_;refine aL_nil ?_));exact hW.out)) : p:=f ⟨h⟩
theorem zs30 {p q : Prop} (h : q) (f : Wq q→p:=by (intro hW;((first | refine aH1' rfl rfl rfl zb102 zb43 zb102 zb102 ?_ | ((try refine aHead_nil ?_);refine aL1 rfl rfl rfl zb43 ?_)));exact hW.out)) : p:=f ⟨h⟩
theorem zb31 {p : Prop} (h : p:=by (apply look_b;(conv=>lhs;whnf);(first | done | exact rfl | (apply sc_bool;(first | (apply decide_eq_true;omega) | (apply decide_eq_false;omega) | assumption | (simp;done)))))) : p:=h
theorem zb22 {p : Prop} (h : p:=by (first | (apply d_sub;(focus (exact rfl));(focus ((apply op_b;(conv=>lhs;whnf);(first | done | exact rfl))));(focus (exact op_int));(focus (omega))) | (apply does_int;(focus (exact rfl));(focus ((apply op_b;(conv=>lhs;whnf);(first | done | exact rfl))));(focus (exact op_int));(focus (exact rfl))))) : p:=h
theorem zs9 {p q : Prop} (h : q) (f : Wq q→p:=by (intro hW;((first | (refine aLs rfl rfl rfl rfl ?_ ?_;(focus (apply look_b;(conv=>lhs;whnf);(first | done | exact rfl | (apply sc_bool;(first | (apply decide_eq_true;omega) | (apply decide_eq_false;omega) | assumption | (simp;done))))))) | refine aLw rfl rfl rfl rfl zb31 zb22 ?_));exact hW.out)) : p:=f ⟨h⟩
theorem zb60 {p : Prop} (h : p:=by (apply look_b;(conv=>lhs;whnf);(first | done | exact rfl))) : p:=h
theorem zb29 {p : Prop} (h : p:=by first | with_reducible rfl | exact sc_int (by omega) | exact sc_int (by simp) | (apply sc_int;omega) | (apply sc_bool;(first | (apply decide_eq_false;omega) | (apply decide_eq_true;omega) | (simp <;> omega)))) : p:=h
theorem zb19 {p : Prop} (h : p:=by (repeat (first | exact sub_nil | refine sub_cons zb60 zb29 ?_))) : p:=h
theorem zb9 {p : Prop} (h : p:=by (first | (apply d_remN;(focus (exact rfl));(focus ((apply op_b;(conv=>lhs;whnf);(first | done | exact rfl))));(focus (exact op_int));(focus (exact rfl));(focus (exact rfl))) | (apply d_remP;(focus (exact rfl));(focus ((apply op_b;(conv=>lhs;whnf);(first | done | exact rfl))));(focus (exact op_int));(focus (omega))) | (apply d_remk;(focus (exact rfl));(focus ((apply op_b;(conv=>lhs;whnf);(first | done | exact rfl))));(focus (exact op_int));(focus (first | omega | decide))))) : p:=h
theorem zs49 {p q : Prop} (h : q) (f : Wq q→p:=by (intro hW;(refine aL1 rfl rfl rfl zb9 ?_);exact hW.out)) : p:=f ⟨h⟩
theorem zb2 {p : Prop} (h : p:=by (first | (apply d_lenm;(focus (exact rfl));(focus ((apply op_b;(conv=>lhs;whnf);(first | done | exact rfl))));(focus (kernel_rfl))) | (apply d_len_ownm;(focus (exact rfl));(focus ((apply op_b;(conv=>lhs;whnf);(first | done | exact rfl))));(focus ((repeat (first | exact List.mem_cons_self | refine List.mem_cons_of_mem _ ?_))));(focus (kernel_rfl))) | (apply d_len;(focus (exact rfl));(focus ((apply op_b;(conv=>lhs;whnf);(first | done | exact rfl))));(focus (kernel_rfl))) | (apply d_len_own;(focus (exact rfl));(focus ((apply op_b;(conv=>lhs;whnf);(first | done | exact rfl))));(focus ((repeat (first | exact List.mem_cons_self | refine List.mem_cons_of_mem _ ?_))));(focus (kernel_rfl))) | (apply d_len0;(focus (exact rfl));(focus ((apply op_b;(conv=>lhs;whnf);(first | done | exact rfl))));(focus (kernel_rfl))))) : p:=h
theorem zs5 {p q : Prop} (h : q) (f : Wq q→p:=by (intro hW;(refine aL1 rfl rfl rfl zb2 ?_);exact hW.out)) : p:=f ⟨h⟩
theorem zb7 {p : Prop} (h : p:=by (first | (apply (d_conv (q':=.i64));(focus (exact rfl));(focus ((apply op_b;(conv=>lhs;whnf);(first | done | exact rfl))));(focus (kernel_rfl));(focus (kernel_rfl));(focus (first | (apply wrap_id;(try simp only []);omega) | exact rfl))) | (apply (d_conv (q':=.u32));(focus (exact rfl));(focus ((apply op_b;(conv=>lhs;whnf);(first | done | exact rfl))));(focus (kernel_rfl));(focus (kernel_rfl));(focus (first | (apply wrap_id;(try simp only []);omega) | exact rfl))) | (apply (d_conv (q':=.u64));(focus (exact rfl));(focus ((apply op_b;(conv=>lhs;whnf);(first | done | exact rfl))));(focus (kernel_rfl));(focus (kernel_rfl));(focus (first | (apply wrap_id;(try simp only []);omega) | exact rfl))))) : p:=h
theorem zs29 {p q : Prop} (h : q) (f : Wq q→p:=by (intro hW;((first | refine aH1' rfl rfl rfl zb102 zb7 zb102 zb102 ?_ | ((try refine aHead_nil ?_);refine aL1 rfl rfl rfl zb7 ?_)));exact hW.out)) : p:=f ⟨h⟩
theorem zb26 {p : Prop} (h : p:=by (apply d_call2;(focus (exact rfl));(focus ((apply op_b;(conv=>lhs;whnf);(first | done | exact rfl))));(focus ((apply op_b;(conv=>lhs;whnf);(first | done | exact rfl))));(focus (exact rfl));(focus (exact rfl));(focus (assumption));(focus (exact rfl)))) : p:=h
theorem zs38 {p q : Prop} (h : q) (f : Wq q→p:=by (intro hW;((first | refine aH1' rfl rfl rfl zb102 zb26 zb102 zb102 ?_ | ((try refine aHead_nil ?_);refine aL1 rfl rfl rfl zb26 ?_)));exact hW.out)) : p:=f ⟨h⟩
theorem zs14 {p q : Prop} (h : q) (f : Wq q→p:=by (intro hW;((refine aLempty (k:=18) (wd:=1) (T:=Tryz.prog.elem 40) rfl rfl rfl rfl zb101 zb101 zb102 zb102 zb42 ?_));exact hW.out)) : p:=f ⟨h⟩
theorem zs15 {p q : Prop} (h : q) (f : Wq q→p:=by (intro hW;(refine aL1 rfl rfl rfl (by (apply d_slice_to;(focus (exact rfl));(focus ((apply op_b;(conv=>lhs;whnf);(first | done | exact rfl))));(focus ((apply op_b;(conv=>lhs;whnf);(first | done | exact rfl))));(focus (kernel_rfl));(focus (kernel_rfl));(focus (first | exact Int.toNat_natCast _ | exact rfl));(focus (first | omega | (simp;omega))))) ?_);exact hW.out)) : p:=f ⟨h⟩
theorem zs16 {p q : Prop} (h : q) (f : Wq q→p:=by (intro hW;((refine aLappA rfl rfl rfl rfl zb61 zb61 zb57 zb102 zb33 zb101 zb101 (by (first | omega | (simp;done) | (simp;omega))) zb42 zb53 ?_));exact hW.out)) : p:=f ⟨h⟩
theorem zs146 {p q : Prop} (h : q) (f : Wq q→p:=by (intro hW;((refine gar ?_;refine zs14 ?_;refine zs4 ?_;refine zs4 ?_;refine zs15 ?_;refine zs16 ?_;refine zs6 ?_;refine aL_nil ?_));exact hW.out)) : p:=f ⟨h⟩
theorem zb51 {p : Prop} (h : p:=by rw [List.take_append_of_le_length (by omega),List.take_of_length_le (by omega)];exact h) : p:=h
theorem zs20 {p q : Prop} (h : q) (f : Wq q→p:=by (intro hW;(refine aL1 rfl rfl rfl (by (apply does_box;(focus (exact rfl));(focus ((apply op_b;(conv=>lhs;whnf);(first | done | exact rfl))));(focus (exact rfl)))) ?_);exact hW.out)) : p:=f ⟨h⟩
theorem zs21 {p q : Prop} (h : q) (f : Wq q→p:=by (intro hW;(refine aL1 rfl rfl rfl (by (apply d_assign;(focus (exact rfl));(focus (exact op_int)))) ?_);exact hW.out)) : p:=f ⟨h⟩
theorem zs154 {p q : Prop} (h : q) (f : Wq q→p:=by (intro hW;((refine gar ?_;refine zs20 ?_;refine zs21 ?_;refine aL_nil ?_));exact hW.out)) : p:=f ⟨h⟩
theorem zb11 {p : Prop} (h : p:=by (first | (apply does_int;(focus (exact rfl));(focus ((apply op_b;(conv=>lhs;whnf);(first | done | exact rfl))));(focus ((apply op_b;(conv=>lhs;whnf);(first | done | exact rfl))));(focus (exact rfl))) | (apply d_neb;(focus (exact rfl));(focus ((apply op_b;(conv=>lhs;whnf);(first | done | exact rfl))));(focus ((apply op_b;(conv=>lhs;whnf);(first | done | exact rfl))));(focus (kernel_rfl))))) : p:=h
theorem zs54 {p q : Prop} (h : q) (f : Wq q→p:=by (intro hW;(refine aL1 rfl rfl rfl zb11 ?_);exact hW.out)) : p:=f ⟨h⟩
theorem zs161 {p q : Prop} (h : q) (f : Wq q→p:=by (intro hW;((refine gar ?_;refine zs4 ?_;refine zs5 ?_;refine zs4 ?_;refine zs5 ?_;refine zs54 ?_;refine aL_nil ?_));exact hW.out)) : p:=f ⟨h⟩
theorem zs2 {p q : Prop} (h : q) (f : Wq q→p:=by (intro hW;(first | refine aW_block ?_ | refine aW_skip ?_ | refine aW_exit ?_ | refine aW_ret ?_ | ((simp only [nx,inB,ite_true,ite_false,↓reduceIte,Nat.reduceEqDiff,reduceCtorEq]);apply_assumption -exfalso));exact hW.out)) : p:=f ⟨h⟩
theorem zb4 {p : Prop} (h : p:=by (first | (apply does_index;(focus (exact rfl));(focus ((apply op_b;(conv=>lhs;whnf);(first | done | exact rfl))));(focus ((apply op_b;(conv=>lhs;whnf);(first | done | exact rfl))));(focus (kernel_rfl));(focus (kernel_rfl));(focus (omega));(focus ((first | (apply get_map;assumption) | (apply get_own;assumption))))) | (apply d_index_own;(focus (exact rfl));(focus ((apply op_b;(conv=>lhs;whnf);(first | done | exact rfl))));(focus ((apply op_b;(conv=>lhs;whnf);(first | done | exact rfl))));(focus ((repeat (first | exact List.mem_cons_self | refine List.mem_cons_of_mem _ ?_))));(focus (kernel_rfl));(focus (kernel_rfl));(focus (first | omega | (simp;omega)));(focus (first | (apply offs_nat;assumption) | exact rfl))))) : p:=h
theorem zs28 {p q : Prop} (h : q) (f : Wq q→p:=by (intro hW;((first | refine aH1' rfl rfl rfl zb102 zb4 zb102 zb102 ?_ | ((try refine aHead_nil ?_);refine aL1 rfl rfl rfl zb4 ?_)));exact hW.out)) : p:=f ⟨h⟩
theorem zb3 {p : Prop} (h : p:=by (first | (apply does_index;(focus (exact rfl));(focus ((apply op_b;(conv=>lhs;whnf);(first | done | exact rfl))));(focus ((apply op_b;(conv=>lhs;whnf);(first | done | exact rfl))));(focus (kernel_rfl));(focus (kernel_rfl));(focus (omega));(focus ((first | (apply map_at;(focus assumption);(focus assumption)) | (apply get_map;assumption) | (apply get_own;assumption))))) | (apply d_index_own;(focus (exact rfl));(focus ((apply op_b;(conv=>lhs;whnf);(first | done | exact rfl))));(focus ((apply op_b;(conv=>lhs;whnf);(first | done | exact rfl))));(focus ((repeat (first | exact List.mem_cons_self | refine List.mem_cons_of_mem _ ?_))));(focus (kernel_rfl));(focus (kernel_rfl));(focus (first | omega | (simp;omega)));(focus (first | (apply offs_nat;assumption) | exact rfl))))) : p:=h
theorem zs56 {p q : Prop} (h : q) (f : Wq q→p:=by (intro hW;((first | refine aH1' rfl rfl rfl zb102 zb3 zb102 zb102 ?_ | ((try refine aHead_nil ?_);refine aL1 rfl rfl rfl zb3 ?_)));exact hW.out)) : p:=f ⟨h⟩
theorem zb46 {p : Prop} (h : p:=by (repeat (first | exact shut_nil | (apply shut_keep;(focus (exact rfl))) | apply shut_hit | apply shut_pt))) : p:=h
theorem zb1 {p : Prop} (h : p:=by (first | (apply d_load;(focus (exact rfl));(focus ((apply op_b;(conv=>lhs;whnf);(first | done | exact rfl))));(focus (exact rfl));(focus ((first | exact wd_ls | exact wd_sc | exact wd_nm | exact wd_pt | exact rfl)));(focus (exact rfl));(focus (kernel_rfl));(focus (kernel_rfl))) | (apply d_load_own;(focus (exact rfl));(focus ((apply op_b;(conv=>lhs;whnf);(first | done | exact rfl))));(focus ((repeat (first | exact List.mem_cons_self | refine List.mem_cons_of_mem _ ?_))));(focus (exact get_one));(focus (exact rfl));(focus (exact rfl));(focus ((first | exact wd_ls | exact wd_sc | exact wd_nm | exact wd_pt | exact rfl)));(focus (exact rfl));(focus (kernel_rfl));(focus (kernel_rfl))) | (apply d_load_ownO;(focus (exact rfl));(focus ((apply op_b;(conv=>lhs;whnf);(first | done | exact rfl))));(focus ((repeat (first | exact List.mem_cons_self | refine List.mem_cons_of_mem _ ?_))));(focus (exact rfl));(focus ((first | exact get_one | (apply get_map1;assumption) | assumption | exact rfl)));(focus (exact rfl));(focus ((first | exact wd_ls | exact wd_sc | exact wd_nm | exact wd_pt | exact rfl)));(focus (exact rfl));(focus (kernel_rfl));(focus (kernel_rfl))))) : p:=h
theorem zs23 {p q : Prop} (h : q) (f : Wq q→p:=by (intro hW;(refine aL1 rfl rfl rfl zb1 ?_);exact hW.out)) : p:=f ⟨h⟩
theorem zb18 {p : Prop} (h : p:=by (first | (apply d_neg_at;(focus (exact rfl));(focus ((apply op_b;(conv=>lhs;whnf);(first | done | exact rfl))));(focus (kernel_rfl));(focus (kernel_rfl))) | (apply d_field_at;(focus (exact rfl));(focus ((apply op_b;(conv=>lhs;whnf);(first | done | exact rfl))));(focus (kernel_rfl));(focus (exact rfl));(focus (kernel_rfl))))) : p:=h
theorem zs43 {p q : Prop} (h : q) (f : Wq q→p:=by (intro hW;(refine aL1 rfl rfl rfl zb18 ?_);exact hW.out)) : p:=f ⟨h⟩
theorem zs155 {p q : Prop} (h : q) (f : Wq q→p:=by (intro hW;((refine gar ?_;refine zs43 ?_;refine zs23 ?_;refine aL_nil ?_));exact hW.out)) : p:=f ⟨h⟩
theorem zs66 {p q : Prop} (h : q) (f : Wq q→p:=by (intro hW;(refine aL1 rfl rfl rfl (by (first | (apply d_load;(focus (exact rfl));(focus ((apply op_b;(conv=>lhs;whnf);(first | done | exact rfl))));(focus (exact rfl));(focus ((first | exact wd_ls | exact wd_sc | exact wd_nm | exact wd_pt | exact rfl)));(focus (exact rfl));(focus (kernel_rfl));(focus (kernel_rfl))) | (apply d_load_own;(focus (exact rfl));(focus ((apply op_b;(conv=>lhs;whnf);(first | done | exact rfl))));(focus ((repeat (first | exact List.mem_cons_self | refine List.mem_cons_of_mem _ ?_))));(focus (exact get_one));(focus (exact rfl));(focus (exact rfl));(focus ((first | exact wd_ls | exact wd_sc | exact wd_nm | exact wd_pt | exact rfl)));(focus (exact rfl));(focus (kernel_rfl));(focus (kernel_rfl))) | (apply d_load_ownO;(focus (exact rfl));(focus ((apply op_b;(conv=>lhs;whnf);(first | done | exact rfl))));(focus ((repeat (first | exact List.mem_cons_self | refine List.mem_cons_of_mem _ ?_))));(focus (exact rfl));(focus ((first | exact get_one | (apply get_map1;assumption) | assumption | (apply get_map;exact hy h6) | exact rfl)));(focus (exact rfl));(focus ((first | exact wd_ls | exact wd_sc | exact wd_nm | exact wd_pt | exact rfl)));(focus (exact rfl));(focus (kernel_rfl));(focus (kernel_rfl))))) ?_);exact hW.out)) : p:=f ⟨h⟩
theorem zs3 {p q : Prop} (h : q) (f : Wq q→p:=by (intro hW;(refine aL1 rfl rfl rfl (by (apply d_assign;(focus (exact rfl));(focus (exact op_nils)))) ?_);exact hW.out)) : p:=f ⟨h⟩
theorem zs46 {p q : Prop} (h : q) (f : Wq q→p:=by (intro hW;(refine aL1 rfl rfl rfl (by (apply d_call2;(focus (exact rfl));(focus ((apply op_b;(conv=>lhs;whnf);(first | done | exact rfl))));(focus ((apply op_b;(conv=>lhs;whnf);(first | done | exact rfl))));(focus (exact rfl));(focus (exact rfl));(focus ((first | exact M l (by omega) h1 h2)));(focus (exact rfl)))) ?_);exact hW.out)) : p:=f ⟨h⟩
theorem zs145 {p q : Prop} (h : q) (f : Wq q→p:=by (intro hW;((refine gar ?_;refine zs3 ?_;refine aL_nil ?_));exact hW.out)) : p:=f ⟨h⟩
theorem zs31 {p q : Prop} (h : q) (f : Wq q→p:=by (intro hW;((try refine aHead_nil ?_);refine aL_nil ?_);exact hW.out)) : p:=f ⟨h⟩
theorem zs19 {p q : Prop} (h : q) (f : Wq q→p:=by (intro hW;(refine aL1 rfl rfl rfl zb22 ?_);exact hW.out)) : p:=f ⟨h⟩
theorem zs148 {p q : Prop} (h : q) (f : Wq q→p:=by (intro hW;((refine gar ?_;refine zs4 ?_;refine zs19 ?_;refine zs6 ?_;refine aL_nil ?_));exact hW.out)) : p:=f ⟨h⟩
theorem zb35 {p : Prop} (h : p:=by (apply d_call1;(focus (exact rfl));(focus ((apply op_b;(conv=>lhs;whnf);(first | done | exact rfl))));(focus (exact rfl));(focus (assumption));(focus (exact rfl)))) : p:=h
theorem zs33 {p q : Prop} (h : q) (f : Wq q→p:=by (intro hW;(refine aL1 rfl rfl rfl zb35 ?_);exact hW.out)) : p:=f ⟨h⟩
theorem zs152 {p q : Prop} (h : q) (f : Wq q→p:=by (intro hW;((refine gar ?_;refine zs4 ?_;refine zs33 ?_;refine zs6 ?_;refine aL_nil ?_));exact hW.out)) : p:=f ⟨h⟩
theorem zs35 {p q : Prop} (h : q) (f : Wq q→p:=by (intro hW;((first | (apply aW_draw 5;(focus kernel_rfl);(focus (decide +kernel))) | (apply aW_draw 4;(focus kernel_rfl);(focus (decide +kernel))) | (apply aW_draw 3;(focus kernel_rfl);(focus (decide +kernel))) | (apply aW_draw 2;(focus kernel_rfl);(focus (decide +kernel))) | (apply aW_draw 1;(focus kernel_rfl);(focus (decide +kernel))));simp only [List.take_succ_cons,List.take_zero,List.drop_succ_cons,List.drop_zero]);exact hW.out)) : p:=f ⟨h⟩
theorem zs27 {p q : Prop} (h : q) (f : Wq q→p:=by (intro hW;((first | refine aH1' rfl rfl rfl zb102 zb1 zb102 zb102 ?_ | ((try refine aHead_nil ?_);refine aL1 rfl rfl rfl zb1 ?_)));exact hW.out)) : p:=f ⟨h⟩
theorem zb48 {p : Prop} (h : p:=by (repeat (first | exact set_nil | apply set_one | apply set_hit | (apply set_miss;(focus (exact rfl)))))) : p:=h
theorem zb59 {p : Prop} (h : p:=by (first | exact wd_ls | exact wd_sc | exact wd_nm | exact wd_pt | exact rfl)) : p:=h
theorem zb63 {p : Prop} (h : p:=by first | exact Nat.zero_lt_one | omega | (simp;omega)) : p:=h
theorem zs39 {p q : Prop} (h : q) (f : Wq q→p:=by (intro hW;(((try refine aHead_nil ?_);(refine aLstore (i:=0) rfl rfl rfl zb61 zb61 zb57 zb102 zb63 zb102 zb59 zb102 zb101 zb48 ?_)));exact hW.out)) : p:=f ⟨h⟩
theorem zb13 {p : Prop} (h : p:=by (first | (apply d_add;(focus (exact rfl));(focus ((apply op_b;(conv=>lhs;whnf);(first | done | exact rfl))));(focus ((apply op_b;(conv=>lhs;whnf);(first | done | exact rfl))));(focus (omega))) | (apply does_int;(focus (exact rfl));(focus ((apply op_b;(conv=>lhs;whnf);(first | done | exact rfl))));(focus ((apply op_b;(conv=>lhs;whnf);(first | done | exact rfl))));(focus (exact rfl))))) : p:=h
theorem zs64 {p q : Prop} (h : q) (f : Wq q→p:=by (intro hW;(refine aL1 rfl rfl rfl zb13 ?_);exact hW.out)) : p:=f ⟨h⟩
theorem zs65 {p q : Prop} (h : q) (f : Wq q→p:=by (intro hW;(refine aL1 rfl rfl rfl (by (first | (apply does_index;(focus (exact rfl));(focus ((apply op_b;(conv=>lhs;whnf);(first | done | exact rfl))));(focus ((apply op_b;(conv=>lhs;whnf);(first | done | exact rfl))));(focus (kernel_rfl));(focus (kernel_rfl));(focus (omega));(focus ((first | (apply get_map;exact hy h6) | (apply get_map;assumption) | (apply get_own;assumption))))) | (apply d_index_own;(focus (exact rfl));(focus ((apply op_b;(conv=>lhs;whnf);(first | done | exact rfl))));(focus ((apply op_b;(conv=>lhs;whnf);(first | done | exact rfl))));(focus ((repeat (first | exact List.mem_cons_self | refine List.mem_cons_of_mem _ ?_))));(focus (kernel_rfl));(focus (kernel_rfl));(focus (first | omega | (simp;omega)));(focus (first | (apply offs_nat;assumption) | exact rfl))))) ?_);exact hW.out)) : p:=f ⟨h⟩
theorem zb28 {p : Prop} (h : p:=by (apply d_lit2;(focus (exact rfl));(focus ((apply op_b;(conv=>lhs;whnf);(first | done | exact rfl))));(focus ((apply op_b;(conv=>lhs;whnf);(first | done | exact rfl))));(focus (kernel_rfl));(focus (kernel_rfl)))) : p:=h
theorem zs149 {p q : Prop} (h : q) (f : Wq q→p:=by (intro hW;((refine gar ?_;refine zs21 ?_;refine aL_nil ?_));exact hW.out)) : p:=f ⟨h⟩
theorem zs40 {p q : Prop} (h : q) (f : Wq q→p:=by (intro hW;((first | (apply aW_draw 6;(focus kernel_rfl);(focus (decide +kernel))) | (apply aW_draw 5;(focus kernel_rfl);(focus (decide +kernel))) | (apply aW_draw 4;(focus kernel_rfl);(focus (decide +kernel))) | (apply aW_draw 3;(focus kernel_rfl);(focus (decide +kernel))) | (apply aW_draw 2;(focus kernel_rfl);(focus (decide +kernel))) | (apply aW_draw 1;(focus kernel_rfl);(focus (decide +kernel))));simp only [List.take_succ_cons,List.take_zero,List.drop_succ_cons,List.drop_zero]);exact hW.out)) : p:=f ⟨h⟩
theorem zb8 {p : Prop} (h : p:=by (first | (apply d_quoN;(focus (exact rfl));(focus ((apply op_b;(conv=>lhs;whnf);(first | done | exact rfl))));(focus (exact op_int));(focus (exact rfl));(focus (exact rfl));(focus (apply wrap_id;(try simp only []);omega))) | (apply d_quoP;(focus (exact rfl));(focus ((apply op_b;(conv=>lhs;whnf);(first | done | exact rfl))));(focus (exact op_int));(focus (omega))) | (apply d_quo;(focus (exact rfl));(focus ((apply op_b;(conv=>lhs;whnf);(first | done | exact rfl))));(focus (exact op_int));(focus (omega))) | (apply d_quok;(focus (exact rfl));(focus ((apply op_b;(conv=>lhs;whnf);(first | done | exact rfl))));(focus (exact op_int));(focus (first | omega | decide))))) : p:=h
theorem zs52 {p q : Prop} (h : q) (f : Wq q→p:=by (intro hW;(refine aL1 rfl rfl rfl zb8 ?_);exact hW.out)) : p:=f ⟨h⟩
theorem zs159 {p q : Prop} (h : q) (f : Wq q→p:=by (intro hW;((refine gar ?_;refine zs4 ?_;refine zs52 ?_;refine zs6 ?_;refine aL_nil ?_));exact hW.out)) : p:=f ⟨h⟩
theorem zs36 {p q : Prop} (h : q) (f : Wq q→p:=by (intro hW;((first | refine aH1' rfl rfl rfl zb102 zb18 zb102 zb102 ?_ | ((try refine aHead_nil ?_);refine aL1 rfl rfl rfl zb18 ?_)));exact hW.out)) : p:=f ⟨h⟩
theorem zb34 {p : Prop} (h : p:=by (first | (apply op_b;(conv=>lhs;whnf);(first | done | exact rfl)) | with_reducible exact op_int | with_reducible exact op_bool | with_reducible exact op_nils | exact op_zero)) : p:=h
theorem zb0 {p : Prop} (h : p:=by (first | (apply d_load;(focus (exact rfl));(focus ((apply op_b;(conv=>lhs;whnf);(first | done | exact rfl))));(focus (exact rfl));(focus ((first | exact wd_ls | exact wd_sc | exact wd_nm | exact wd_pt | exact rfl)));(focus (exact rfl));(focus (kernel_rfl));(focus (kernel_rfl))) | (apply d_load_own;(focus (exact rfl));(focus ((apply op_b;(conv=>lhs;whnf);(first | done | exact rfl))));(focus ((repeat (first | exact List.mem_cons_self | refine List.mem_cons_of_mem _ ?_))));(focus (exact get_one));(focus (exact rfl));(focus (exact rfl));(focus ((first | exact wd_ls | exact wd_sc | exact wd_nm | exact wd_pt | exact rfl)));(focus (exact rfl));(focus (kernel_rfl));(focus (kernel_rfl))) | (apply d_load_ownO;(focus (exact rfl));(focus ((apply op_b;(conv=>lhs;whnf);(first | done | exact rfl))));(focus ((repeat (first | exact List.mem_cons_self | refine List.mem_cons_of_mem _ ?_))));(focus (exact rfl));(focus ((first | exact get_one | (apply get_map1;assumption) | assumption | (apply map_at;(focus assumption);(focus assumption)) | exact rfl)));(focus (exact rfl));(focus ((first | exact wd_ls | exact wd_sc | exact wd_nm | exact wd_pt | exact rfl)));(focus (exact rfl));(focus (kernel_rfl));(focus (kernel_rfl))))) : p:=h
theorem zs57 {p q : Prop} (h : q) (f : Wq q→p:=by (intro hW;((first | refine aH1' rfl rfl rfl zb102 zb0 zb102 zb102 ?_ | ((try refine aHead_nil ?_);refine aL1 rfl rfl rfl zb0 ?_)));exact hW.out)) : p:=f ⟨h⟩
theorem zb30 {p : Prop} (h : p:=by (apply does_int;(focus (exact rfl));(focus ((apply op_b;(conv=>lhs;whnf);(first | done | exact rfl))));(focus ((apply op_b;(conv=>lhs;whnf);(first | done | exact rfl))));(focus (exact rfl)))) : p:=h
theorem zs17 {p q : Prop} (h : q) (f : Wq q→p:=by (intro hW;((first | (refine aLs rfl rfl rfl rfl ?_ ?_;(focus (apply look_b;(conv=>lhs;whnf);(first | done | exact rfl | (apply sc_bool;(first | (apply decide_eq_true;omega) | (apply decide_eq_false;omega) | assumption | (simp;done))))))) | refine aLw rfl rfl rfl rfl zb31 zb3 ?_));exact hW.out)) : p:=f ⟨h⟩
theorem zs8 {p q : Prop} (h : q) (f : Wq q→p:=by (intro hW;((first | (refine aLs rfl rfl rfl rfl ?_ ?_;(focus (apply look_b;(conv=>lhs;whnf);(first | done | exact rfl | (apply sc_bool;(first | (apply decide_eq_true;omega) | (apply decide_eq_false;omega) | assumption | (simp;done))))))) | refine aLw rfl rfl rfl rfl zb31 zb45 ?_));exact hW.out)) : p:=f ⟨h⟩
theorem zb6 {p : Prop} (h : p:=by (first | (apply d_pick_t;(focus (exact rfl));(focus ((apply op_b;(conv=>lhs;whnf);(first | done | exact rfl))));(focus (first | exact rfl | (apply decide_eq_true;omega) | assumption | (simp;done)));(focus ((apply op_b;(conv=>lhs;whnf);(first | done | exact rfl))))) | (apply d_pick_f;(focus (exact rfl));(focus ((apply op_b;(conv=>lhs;whnf);(first | done | exact rfl))));(focus (first | exact rfl | (apply decide_eq_false;omega) | assumption | (simp;done)));(focus (exact op_bool))) | (apply d_pick;(focus (exact rfl));(focus ((apply op_b;(conv=>lhs;whnf);(first | done | exact rfl))));(focus ((apply op_b;(conv=>lhs;whnf);(first | done | exact rfl))));(focus (exact op_bool));(focus (exact rfl))))) : p:=h
theorem zs13 {p q : Prop} (h : q) (f : Wq q→p:=by (intro hW;(refine aL1 rfl rfl rfl zb6 ?_);exact hW.out)) : p:=f ⟨h⟩
theorem zb36 {p : Prop} (h : p:=by (apply does_int;(focus (exact rfl));(focus ((apply op_b;(conv=>lhs;whnf);(first | done | exact rfl))));(focus (exact op_int));(focus (exact rfl)))) : p:=h
theorem zs7 {p q : Prop} (h : q) (f : Wq q→p:=by (intro hW;(refine aL1 rfl rfl rfl zb36 ?_);exact hW.out)) : p:=f ⟨h⟩
theorem zb21 {p : Prop} (h : p:=by (first | (apply does_int;(focus (exact rfl));(focus ((apply op_b;(conv=>lhs;whnf);(first | done | exact rfl))));(focus (exact op_int));(focus (exact rfl))) | (apply d_eqb;(focus (exact rfl));(focus ((apply op_b;(conv=>lhs;whnf);(first | done | exact rfl))));(focus (exact op_int));(focus (kernel_rfl))))) : p:=h
theorem zs12 {p q : Prop} (h : q) (f : Wq q→p:=by (intro hW;((first | (refine aLs rfl rfl rfl rfl ?_ ?_;(focus (apply look_b;(conv=>lhs;whnf);(first | done | exact rfl | (apply sc_bool;(first | (apply decide_eq_true;omega) | (apply decide_eq_false;omega) | assumption | (simp;done))))))) | refine aLw rfl rfl rfl rfl zb31 zb21 ?_));exact hW.out)) : p:=f ⟨h⟩
theorem zs18 {p q : Prop} (h : q) (f : Wq q→p:=by (intro hW;((first | (refine aLs rfl rfl rfl rfl ?_ ?_;(focus (apply look_b;(conv=>lhs;whnf);(first | done | exact rfl | (apply sc_bool;(first | (apply decide_eq_true;omega) | (apply decide_eq_false;omega) | assumption | (simp;done))))))) | refine aLw rfl rfl rfl rfl zb31 zb0 ?_));exact hW.out)) : p:=f ⟨h⟩
theorem zs147 {p q : Prop} (h : q) (f : Wq q→p:=by (intro hW;((refine gar ?_;refine zs4 ?_;refine zs7 ?_;refine zs4 ?_;refine zs8 ?_;refine zs8 ?_;refine zs9 ?_;refine zs17 ?_;refine zs18 ?_;refine zs12 ?_;refine zs13 ?_;refine aL_nil ?_));exact hW.out)) : p:=f ⟨h⟩
theorem zs44 {p q : Prop} (h : q) (f : Wq q→p:=by (intro hW;(refine aL1 rfl rfl rfl (by (first | (apply does_int;(focus (exact rfl));(focus ((apply op_b;(conv=>lhs;whnf);(first | done | exact rfl))));(focus (exact op_int));(focus (exact rfl))) | (apply d_neb;(focus (exact rfl));(focus ((apply op_b;(conv=>lhs;whnf);(first | done | exact rfl))));(focus (exact op_int));(focus (kernel_rfl))))) ?_);exact hW.out)) : p:=f ⟨h⟩
theorem zs156 {p q : Prop} (h : q) (f : Wq q→p:=by (intro hW;((refine gar ?_;refine zs4 ?_;refine zs44 ?_;refine aL_nil ?_));exact hW.out)) : p:=f ⟨h⟩
theorem zs25 {p q : Prop} (h : q) (f : Wq q→p:=by (intro hW;((first | refine aH1' rfl rfl rfl zb102 zb45 zb102 zb102 ?_ | ((try refine aHead_nil ?_);refine aL1 rfl rfl rfl zb45 ?_)));exact hW.out)) : p:=f ⟨h⟩
theorem zs47 {p q : Prop} (h : q) (f : Wq q→p:=by (intro hW;((refine aLstore (i:=0) rfl rfl rfl zb61 zb61 zb57 zb102 zb63 zb102 zb59 zb102 zb101 zb48 ?_));exact hW.out)) : p:=f ⟨h⟩
theorem zs157 {p q : Prop} (h : q) (f : Wq q→p:=by (intro hW;((refine gar ?_;refine zs4 ?_;refine zs7 ?_;refine aL_nil ?_));exact hW.out)) : p:=f ⟨h⟩
theorem zs24 {p q : Prop} (h : q) (f : Wq q→p:=by (intro hW;(refine aL1 rfl rfl rfl zb30 ?_);exact hW.out)) : p:=f ⟨h⟩
theorem zs165 {p q : Prop} (h : q) (f : Wq q→p:=by (intro hW;((refine gar ?_;refine zs4 ?_;refine zs4 ?_;refine zs5 ?_;refine zs24 ?_;refine aL_nil ?_));exact hW.out)) : p:=f ⟨h⟩
theorem zs10 {p q : Prop} (h : q) (f : Wq q→p:=by (intro hW;((first | (refine aLs rfl rfl rfl rfl ?_ ?_;(focus (apply look_b;(conv=>lhs;whnf);(first | done | exact rfl | (apply sc_bool;(first | (apply decide_eq_true;omega) | (apply decide_eq_false;omega) | assumption | (simp;done))))))) | refine aLw rfl rfl rfl rfl zb31 zb4 ?_));exact hW.out)) : p:=f ⟨h⟩
theorem zs34 {p q : Prop} (h : q) (f : Wq q→p:=by (intro hW;((refine aLalloc (k:=2) (z:=(.agg #[.bool false,.slice none 0 0])) (d:=(.nm 0)) rfl rfl rfl rfl rfl zb101 zb102 zb102 zb59 zb102 zb102 zb42 ?_));exact hW.out)) : p:=f ⟨h⟩
theorem zb37 {p : Prop} (h : p:=by (repeat (first | exact subo_nil | (apply subo_cons;(focus (repeat (first | exact List.mem_cons_self | refine List.mem_cons_of_mem _ ?_))))))) : p:=h
theorem zs162 {p q : Prop} (h : q) (f : Wq q→p:=by (intro hW;((refine gar ?_;refine zs4 ?_;refine zs5 ?_;refine zs19 ?_;refine zs6 ?_;refine aL_nil ?_));exact hW.out)) : p:=f ⟨h⟩
theorem zs42 {p q : Prop} (h : q) (f : Wq q→p:=by (intro hW;(refine aL1 rfl rfl rfl zb21 ?_);exact hW.out)) : p:=f ⟨h⟩
theorem zs37 {p q : Prop} (h : q) (f : Wq q→p:=by (intro hW;((first | refine aH1' rfl rfl rfl zb102 zb35 zb102 zb102 ?_ | ((try refine aHead_nil ?_);refine aL1 rfl rfl rfl zb35 ?_)));exact hW.out)) : p:=f ⟨h⟩
theorem zs153 {p q : Prop} (h : q) (f : Wq q→p:=by (intro hW;((refine gar ?_;refine zs20 ?_;refine zs34 ?_;refine aL_nil ?_));exact hW.out)) : p:=f ⟨h⟩
theorem zs61 {p q : Prop} (h : q) (f : Wq q→p:=by (intro hW;((first | (refine aLs rfl rfl rfl rfl ?_ ?_;(focus (apply look_b;(conv=>lhs;whnf);(first | done | exact rfl | (apply sc_bool;(first | (apply decide_eq_true;omega) | (apply decide_eq_false;omega) | assumption | (simp;done))))))) | refine aLw rfl rfl rfl rfl zb31 zb30 ?_));exact hW.out)) : p:=f ⟨h⟩
theorem zs60 {p q : Prop} (h : q) (f : Wq q→p:=by (intro hW;((first | (refine aLs rfl rfl rfl rfl ?_ ?_;(focus (apply look_b;(conv=>lhs;whnf);(first | done | exact rfl | (apply sc_bool;(first | (apply decide_eq_true;omega) | (apply decide_eq_false;omega) | assumption | (simp;done))))))) | refine aLw rfl rfl rfl rfl zb31 zb2 ?_));exact hW.out)) : p:=f ⟨h⟩
theorem zb5 {p : Prop} (h : p:=by (first | (apply d_pick_t;(focus (exact rfl));(focus ((apply op_b;(conv=>lhs;whnf);(first | done | exact rfl))));(focus (first | exact rfl | (apply decide_eq_true;omega) | assumption | (simp;done)));(focus (exact op_bool))) | (apply d_pick_f;(focus (exact rfl));(focus ((apply op_b;(conv=>lhs;whnf);(first | done | exact rfl))));(focus (first | exact rfl | (apply decide_eq_false;omega) | assumption | (simp;done)));(focus ((apply op_b;(conv=>lhs;whnf);(first | done | exact rfl))))) | (apply d_pick;(focus (exact rfl));(focus ((apply op_b;(conv=>lhs;whnf);(first | done | exact rfl))));(focus (exact op_bool));(focus ((apply op_b;(conv=>lhs;whnf);(first | done | exact rfl))));(focus (exact rfl))))) : p:=h
theorem zs62 {p q : Prop} (h : q) (f : Wq q→p:=by (intro hW;(refine aL1 rfl rfl rfl zb5 ?_);exact hW.out)) : p:=f ⟨h⟩
theorem zs63 {p q : Prop} (h : q) (f : Wq q→p:=by (intro hW;((first | (refine aLs rfl rfl rfl rfl ?_ ?_;(focus (apply look_b;(conv=>lhs;whnf);(first | done | exact rfl | (apply sc_bool;(first | (apply decide_eq_true;omega) | (apply decide_eq_false;omega) | assumption | (simp;done))))))) | refine aLw rfl rfl rfl rfl zb31 zb36 ?_));exact hW.out)) : p:=f ⟨h⟩
theorem zs164 {p q : Prop} (h : q) (f : Wq q→p:=by (intro hW;((refine gar ?_;refine zs4 ?_;refine zs4 ?_;refine zs5 ?_;refine zs24 ?_;refine zs4 ?_;refine zs8 ?_;refine zs8 ?_;refine zs60 ?_;refine zs61 ?_;refine zs62 ?_;refine zs4 ?_;refine zs8 ?_;refine zs63 ?_;refine zs62 ?_;refine aL_nil ?_));exact hW.out)) : p:=f ⟨h⟩
theorem zs11 {p q : Prop} (h : q) (f : Wq q→p:=by (intro hW;((first | (refine aLs rfl rfl rfl rfl ?_ ?_;(focus (apply look_b;(conv=>lhs;whnf);(first | done | exact rfl | (apply sc_bool;(first | (apply decide_eq_true;omega) | (apply decide_eq_false;omega) | assumption | (simp;done))))))) | refine aLw rfl rfl rfl rfl zb31 zb1 ?_));exact hW.out)) : p:=f ⟨h⟩
theorem zb50 {p : Prop} (h : p:=by (repeat (first | exact drop_nil | apply drop_hit | (apply drop_miss;(focus (exact rfl)))))) : p:=h
theorem zs48 {p q : Prop} (h : q) (f : Wq q→p:=by (intro hW;((apply aW_yes;(focus (first | (apply op_b;(conv=>lhs;whnf);(first | done | exact rfl)) | with_reducible exact op_int | with_reducible exact op_bool | with_reducible exact op_nils | exact op_zero));(focus (first | with_reducible rfl | (apply decide_eq_true;omega) | assumption | (simp <;> omega)))));exact hW.out)) : p:=f ⟨h⟩
theorem zs53 {p q : Prop} (h : q) (f : Wq q→p:=by (intro hW;(refine aL1 rfl rfl rfl (by (apply d_assign;(focus (exact rfl));(focus (exact op_bool)))) ?_);exact hW.out)) : p:=f ⟨h⟩
theorem zs160 {p q : Prop} (h : q) (f : Wq q→p:=by (intro hW;((refine gar ?_;refine zs53 ?_;refine aL_nil ?_));exact hW.out)) : p:=f ⟨h⟩
theorem zs32 {p q : Prop} (h : q) (f : Wq q→p:=by (intro hW;(refine aL1 rfl rfl rfl (by (first | (apply d_add;(focus (exact rfl));(focus ((apply op_b;(conv=>lhs;whnf);(first | done | exact rfl))));(focus (exact op_int));(focus (omega))) | (apply does_int;(focus (exact rfl));(focus ((apply op_b;(conv=>lhs;whnf);(first | done | exact rfl))));(focus (exact op_int));(focus (exact rfl))))) ?_);exact hW.out)) : p:=f ⟨h⟩
theorem zs151 {p q : Prop} (h : q) (f : Wq q→p:=by (intro hW;((refine gar ?_;refine zs4 ?_;refine zs32 ?_;refine zs6 ?_;refine aL_nil ?_));exact hW.out)) : p:=f ⟨h⟩
theorem zb44 {p : Prop} (h : p:=by (apply does_not;(focus (exact rfl));(focus ((apply op_b;(conv=>lhs;whnf);(first | done | exact rfl)))))) : p:=h
theorem zs41 {p q : Prop} (h : q) (f : Wq q→p:=by (intro hW;((first | refine aH1' rfl rfl rfl zb102 zb44 zb102 zb102 ?_ | ((try refine aHead_nil ?_);refine aL1 rfl rfl rfl zb44 ?_)));exact hW.out)) : p:=f ⟨h⟩
theorem zs45 {p q : Prop} (h : q) (f : Wq q→p:=by (intro hW;((apply aW_no;(focus (first | (apply op_b;(conv=>lhs;whnf);(first | done | exact rfl)) | with_reducible exact op_int | with_reducible exact op_bool | with_reducible exact op_nils | exact op_zero));(focus (first | with_reducible rfl | (apply decide_eq_false;omega) | assumption | (simp <;> omega)))));exact hW.out)) : p:=f ⟨h⟩
theorem zb17 {p : Prop} (h : p:=by (first | (apply d_words_at;(focus (exact rfl));(focus ((apply op_b;(conv=>lhs;whnf);(first | done | exact rfl))));(focus (kernel_rfl));(focus (kernel_rfl))) | (apply d_field_at;(focus (exact rfl));(focus ((apply op_b;(conv=>lhs;whnf);(first | done | exact rfl))));(focus (kernel_rfl));(focus (exact rfl));(focus (kernel_rfl))))) : p:=h
theorem zs22 {p q : Prop} (h : q) (f : Wq q→p:=by (intro hW;(refine aL1 rfl rfl rfl zb17 ?_);exact hW.out)) : p:=f ⟨h⟩
theorem zs150 {p q : Prop} (h : q) (f : Wq q→p:=by (intro hW;((refine gar ?_;refine zs4 ?_;refine zs22 ?_;refine zs23 ?_;refine zs5 ?_;refine zs24 ?_;refine aL_nil ?_));exact hW.out)) : p:=f ⟨h⟩
theorem zs58 {p q : Prop} (h : q) (f : Wq q→p:=by (intro hW;((first | refine aH1' rfl rfl rfl zb102 zb11 zb102 zb102 ?_ | ((try refine aHead_nil ?_);refine aL1 rfl rfl rfl zb11 ?_)));exact hW.out)) : p:=f ⟨h⟩
theorem zs55 {p q : Prop} (h : q) (f : Wq q→p:=by (intro hW;((first | (apply aW_draw 8;(focus kernel_rfl);(focus (decide +kernel))) | (apply aW_draw 7;(focus kernel_rfl);(focus (decide +kernel))) | (apply aW_draw 6;(focus kernel_rfl);(focus (decide +kernel))) | (apply aW_draw 5;(focus kernel_rfl);(focus (decide +kernel))) | (apply aW_draw 4;(focus kernel_rfl);(focus (decide +kernel))) | (apply aW_draw 3;(focus kernel_rfl);(focus (decide +kernel))) | (apply aW_draw 2;(focus kernel_rfl);(focus (decide +kernel))) | (apply aW_draw 1;(focus kernel_rfl);(focus (decide +kernel))));simp only [List.take_succ_cons,List.take_zero,List.drop_succ_cons,List.drop_zero]);exact hW.out)) : p:=f ⟨h⟩
theorem zs163 {p q : Prop} (h : q) (f : Wq q→p:=by (intro hW;((refine zs55 ?_;refine zs25 ?_;refine zs25 ?_;refine zs56 ?_;refine zs57 ?_;refine zs25 ?_;refine zs25 ?_;refine zs56 ?_;refine zs57 ?_;refine zs58 ?_;refine zs31 ?_));exact hW.out)) : p:=f ⟨h⟩
theorem zs59 {p q : Prop} (h : q) (f : Wq q→p:=by (intro hW;((first | (apply aW_draw 9;(focus kernel_rfl);(focus (decide +kernel))) | (apply aW_draw 8;(focus kernel_rfl);(focus (decide +kernel))) | (apply aW_draw 7;(focus kernel_rfl);(focus (decide +kernel))) | (apply aW_draw 6;(focus kernel_rfl);(focus (decide +kernel))) | (apply aW_draw 5;(focus kernel_rfl);(focus (decide +kernel))) | (apply aW_draw 4;(focus kernel_rfl);(focus (decide +kernel))) | (apply aW_draw 3;(focus kernel_rfl);(focus (decide +kernel))) | (apply aW_draw 2;(focus kernel_rfl);(focus (decide +kernel))));simp only [List.take_succ_cons,List.take_zero,List.drop_succ_cons,List.drop_zero]);exact hW.out)) : p:=f ⟨h⟩
theorem zs26 {p q : Prop} (h : q) (f : Wq q→p:=by (intro hW;((first | refine aH1' rfl rfl rfl zb102 zb17 zb102 zb102 ?_ | ((try refine aHead_nil ?_);refine aL1 rfl rfl rfl zb17 ?_)));exact hW.out)) : p:=f ⟨h⟩
end Go.Proofs.YtcgjmdpcplhanaaGreat
namespace Go.Proofs.YtcgjmdpcplhanaaGreat
open Go.RowKit
namespace DW
theorem get_of_lt {l : List Nat} {k : Nat} (h : k < l.length) : l[k]? = some (l.getD k 0):=by rw [List.getD_eq_getElem?_getD,List.getElem?_eq_getElem h];rfl
theorem hd_of {l : List Nat} (h : Dg.dig 65536 l) : l.take (tl l) = hd (Dg.vl 65536 l):=by
 obtain ⟨h1,h2⟩:=tl_nf16 h
 have:=Dg.dgs_of (by decide) h1
 rw [h2] at this;exact this.symm
abbrev trimQ (N : Nat) (e : Exit) (s : S) : Prop:=(e = .normal∨e = .ret)∧s.gt 2 = .own 18∧(18,(⟨3,1,(hd N).map hN⟩ : Ow)) ∈ s.ow
set_option maxRecDepth 20000 in
set_option maxHeartbeats 1000000 in
theorem trim_w (X0 : Nat → Prop) (l : List Nat) (hl : l.length ≤ 900000000) (hdg : Dg.dig 65536 l) : ∃ c, Tryz.f188.body = some c ∧ aW Tryz.prog X0 Tryz.f188.ntmps c (trimQ (Dg.vl 65536 l)) ⟨initL 0 [dN l], []⟩ := by
  refine ⟨_, rfl, ?_⟩
  have HT := hd_of hdg
  simp only [initL]
  (repeat (first | refine gk fun K hK => ?_ | refine zs2 ?_)); refine zs145 ?_; (repeat (first | refine gk fun K hK => ?_ | refine zs2 ?_)); (refine gar ?_; refine zs4 ?_; refine zs5 ?_; refine zs6 ?_; refine aL_nil ?_); (repeat (first | refine gk fun K hK => ?_ | refine zs2 ?_))
  (refine aW_sh (Sh_to (sl' := [(0, dN l), (3, zI l.length)]) (ow' := []) zb19 zb37) ?_)
  refine aW_loop (fun k s => tl l ≤ k ∧ k ≤ l.length ∧ s = ⟨[(0, dN l), (3, zI k)], []⟩) (m := l.length) ⟨tl_le l, Nat.le_refl _, rfl⟩ fun k s hs => ?_
  obtain ⟨hk1, hk2, rfl⟩ := hs
  have fin' : ∀ (K : Exit → S → Prop), k = tl l → ([] ++ (l.map hN).take k) = (hd (Dg.vl 65536 l)).map hN := fun _ e => by rw [List.nil_append, ← List.map_take, e, HT]
  by_cases hk0 : k = 0
  · subst hk0
    have ht : tl l = 0 := by omega
    (repeat (first | refine gk fun K hK => ?_ | refine zs2 ?_))
    (refine gar ?_; refine zs4 ?_; refine zs7 ?_; refine zs4 ?_; refine zs8 ?_; refine zs8 ?_; refine zs9 ?_; refine zs10 ?_; refine zs11 ?_; refine zs12 ?_; refine zs13 ?_; refine aL_nil ?_)
    (repeat (first | refine gk fun K hK => ?_ | refine zs2 ?_))
    refine aW_no zb34 (by rfl) ?_
    (repeat (first | refine gk fun K hK => ?_ | refine zs2 ?_))
    refine zs146 ?_
    (repeat (first | refine gk fun K hK => ?_ | refine zs2 ?_))
    exact ⟨.inr rfl, by rfl, by rw [← fin' (fun _ _ => True) ht.symm]; exact List.mem_cons_self⟩
  · have hx := get_of_lt (l := l) (k := k - 1) (by omega)
    obtain ⟨x, hxd⟩ : ∃ x, x = l.getD (k - 1) 0 := ⟨_, rfl⟩
    rw [← hxd] at hx
    have hcast : (k : Int) - 1 = ((k - 1 : Nat) : Int) := by omega
    by_cases hx0 : x = 0
    · have hlt : tl l < k := by
        rcases tl_last l with h | h
        · omega
        · apply Nat.lt_of_le_of_ne hk1; intro e; rw [e] at h; exact h (by rw [← hxd, hx0])
      (repeat (first | refine gk fun K hK => ?_ | refine zs2 ?_))
      refine zs147 ?_
      (repeat (first | refine gk fun K hK => ?_ | refine zs2 ?_))
      refine aW_yes zb34 (decide_eq_true (by omega)) ?_
      (repeat (first | refine gk fun K hK => ?_ | refine zs2 ?_))
      refine zs148 ?_
      simp only [nx, inB]
      exact ⟨k - 1, _, by omega, (Sh_to (sl' := [(0, dN l), (3, zI (k - 1 : Nat))]) (ow' := []) zb19 zb37), by omega, by omega, rfl⟩
    · have ht : k = tl l := by
        apply Nat.le_antisymm _ hk1
        apply Nat.le_of_not_lt; intro h
        exact hx0 (by rw [hxd]; exact tl_zero l (k - 1) (by omega))
      (repeat (first | refine gk fun K hK => ?_ | refine zs2 ?_))
      refine zs147 ?_
      (repeat (first | refine gk fun K hK => ?_ | refine zs2 ?_))
      refine aW_no zb34 (decide_eq_false (by omega)) ?_
      (repeat (first | refine gk fun K hK => ?_ | refine zs2 ?_))
      refine zs146 ?_
      (repeat (first | refine gk fun K hK => ?_ | refine zs2 ?_))
      exact ⟨.inr rfl, by rfl, by rw [← fin' (fun _ _ => True) ht]; exact List.mem_cons_self⟩
theorem trim_d (l : List Nat) (hl : l.length≤900000000) (hdg : Dg.dig 65536 l) : Fn Tryz.prog 188 [dN l] (dN (hd (Dg.vl 65536 l))):=by
 refine fn_of Tryz.func188 zb101 rfl rfl rfl fun X0=>?_
 obtain ⟨c,h1,h2⟩:=trim_w X0 l hl hdg
 cases h1
 refine h2.mono fun e s ⟨h3,h4,h5⟩=>?_
 have:=fin_own (P:=Tryz.prog) (X0:=X0) (n:=Tryz.f188.ntmps) (fn:=Tryz.f188) (s:=s) (t:=2) rfl h4 h5
 rcases h3 with rfl | rfl <;> exact this
theorem htrim_gen (l : List Nat) (hl : l.length≤900000000) (hdg : Dg.dig 65536 l) (X : Nat→Prop) (w : World) (v : Value) (hX : XW X w) (hv : AR X w (dN l) v) : Calls Tryz.prog 188 #[v] w fun e w'=>HRes w' e (Dg.vl 65536 l)∧Below w.heap.size w w':=by
 obtain ⟨c,h1,h2⟩:=trim_w X l hl hdg
 refine calls_gen (ds:=[dN l]) Tryz.func188 h1 rfl rfl hX (by simp only [ATp];exact ⟨v,[],rfl,hv,rfl⟩) _ h2 fun e s f a w' ⟨h3,h4,h5⟩ hh=>⟨h3,a.tmps.getD 2 undef,results_tmp rfl a.tmps _ _,⟨_,hd (Dg.vl 65536 l),rfl,?_,(Dg.dgs_spec (by decide) _).1,(Dg.dgs_spec (by decide) _).2⟩,hh.bl.low⟩
 have h6:=hh.sl 2
 rw [h4] at h6
 simp only [SR] at h6
 rw [h6]
 obtain ⟨_,xs,⟨k1,k2⟩,k3⟩:=hh.ow _ h5
 simp only [List.length_map] at k1 k2 k3
 rcases k2 with ⟨k4,k5⟩ | ⟨g,cap,cur,k4,_,hgg,hle,hm,hcs,htk⟩
 ·exact .inl ⟨k4,List.eq_nil_of_length_eq_zero k5⟩
 ·refine .inr ⟨g,cap,k4,hle,hm,(Array.getElem?_eq_some_iff.1 hgg).1,fun k x hk=>?_⟩
  have hd' : ((hd (Dg.vl 65536 l)).map hN)[k]? = some (hN x):=by rw [List.getElem?_map,hk];rfl
  obtain ⟨u,e1,_,_,e4⟩:=Els.at k3 hd'
  simp only [AR] at e1
  have h7:=e4 0 u (by rw [one_cells (by rw [e1.1];rfl)];rfl)
  rw [Nat.mul_one,Nat.add_zero] at h7
  rw [cell_of_row w' g _ cur _ (0,0) hgg]
  have hlt:=(List.getElem?_eq_some_iff.1 h7).1
  rw [← htk,List.length_take] at hlt
  rw [← htk,List.getElem?_take_of_lt (by omega),Array.getElem?_toList] at h7
  rw [h7,e1.1]
theorem made_d (s : Bool) (l : List Nat) (hl : l.length≤900000000) (hdg : Dg.dig 65536 l) : Fn Tryz.prog 150 [.sc (.bool s),dN l] (.nm (Dg.iv s (Dg.vl 65536 l))):=by
 refine ⟨Go.Proofs.enters_of Tryz.func150 zb101 rfl,fun X w vs hX hv=>?_⟩
 simp only [ATp] at hv
 obtain ⟨v1,r1,e,h1,v2,r2,e2,h2,e3⟩:=hv
 simp only [AR] at h1
 rw [e2,e3,h1.1] at e
 have : vs = #[.bool s,v2]:=Array.toList_inj.1 e
 subst this
 exact (hmade_any s l v2 (by omega) hdg w fun W hW=>htrim_gen l hl hdg X W v2 (hX.grow hW) (h2.grow hW)).mono fun e w' ⟨⟨x,k1,k2⟩,k3⟩=>⟨_,k1,by simp only [AR];exact ⟨x,rfl,k2⟩,k3⟩
set_option maxRecDepth 20000 in
set_option maxHeartbeats 1000000 in
theorem digits_d (z : Int) (hz : (wds z.natAbs).length≤400000000) : Fn Tryz.prog 151 [.nm z] (dN (hd z.natAbs)):=by
 refine fn_of Tryz.func151 zb101 rfl rfl rfl fun X0=>?_
 simp only [initL]
 have hv : Dg.vl B32 (wds z.natAbs) = z.natAbs:=(Dg.dgs_spec (by decide) _).2
 have hdu : Dg.dig B32 (wds z.natAbs):=(Dg.dgs_spec (by decide) _).1.dg
 have hvl : Dg.vl 65536 (hw (wds z.natAbs)) = z.natAbs:=by rw [hw_vl,hv]
 have TRIM:=trim_d (hw (wds z.natAbs)) (by rw [hw_len];omega) (hw_dig hdu)
 rw [hvl] at TRIM
 (repeat (first | refine gk fun K hK=>?_ | refine zs2 ?_));(refine gar ?_;refine zs20 ?_;refine zs3 ?_;refine aL_nil ?_);(repeat (first | refine gk fun K hK=>?_ | refine zs2 ?_));refine zs145 ?_;(repeat (first | refine gk fun K hK=>?_ | refine zs2 ?_));refine zs149 ?_;(repeat (first | refine gk fun K hK=>?_ | refine zs2 ?_))
 refine aW_sh (Sh_nil' (t:=3) (k:=3) (T:=3) (wd:=1) zb60 rfl rfl zb42) ?_
 (refine aW_sh (Sh_to (sl':=[(1,.pt (.nm z)),(3,.own 3),(4,zI 0)]) (ow':=[(3,⟨3,1,[]⟩)]) zb19 zb37) ?_)
 refine aW_loop (fun r s=>∃ k,k≤(wds z.natAbs).length∧r = (wds z.natAbs).length - k∧s = ⟨[(1,.pt (.nm z)),(3,.own 3),(4,zI k)],[(3,⟨3,1,(hw ((wds z.natAbs).take k)).map hN⟩)]⟩) (m:=(wds z.natAbs).length) ⟨0,by omega,rfl,by simp [hw]⟩ fun r s hs=>?_
 obtain ⟨k,hk,rfl,rfl⟩:=hs
 by_cases hkl : k < (wds z.natAbs).length
 ·have hx:=get_of_lt hkl
  obtain ⟨x,hxd⟩ : ∃ x,x = (wds z.natAbs).getD k 0:=⟨_,rfl⟩
  rw [← hxd] at hx
  have hx32 : x < 4294967296:=hdu x (List.mem_of_getElem? hx)
  have hql : x / 65536 < 65536:=by omega
  (repeat (first | refine gk fun K hK=>?_ | refine zs2 ?_))
  refine zs150 ?_
  (repeat (first | refine gk fun K hK=>?_ | refine zs2 ?_))
  refine aW_yes zb34 (decide_eq_true (by omega)) ?_
  (repeat (first | refine gk fun K hK=>?_ | refine zs2 ?_))
  (((first | (apply aW_draw 16;(focus kernel_rfl);(focus (decide +kernel))) | (apply aW_draw 15;(focus kernel_rfl);(focus (decide +kernel))) | (apply aW_draw 14;(focus kernel_rfl);(focus (decide +kernel))) | (apply aW_draw 13;(focus kernel_rfl);(focus (decide +kernel))) | (apply aW_draw 12;(focus kernel_rfl);(focus (decide +kernel))) | (apply aW_draw 11;(focus kernel_rfl);(focus (decide +kernel))) | (apply aW_draw 10;(focus kernel_rfl);(focus (decide +kernel))) | (apply aW_draw 9;(focus kernel_rfl);(focus (decide +kernel))));simp only [List.take_succ_cons,List.take_zero,List.drop_succ_cons,List.drop_zero]);refine zs25 ?_;refine zs26 ?_;refine zs27 ?_;refine zs25 ?_;refine zs28 ?_;refine zs27 ?_;(first | refine aH1' rfl rfl rfl zb102 zb9 zb102 zb102 ?_ | ((try refine aHead_nil ?_);refine aL1 rfl rfl rfl zb9 ?_));refine zs29 ?_;refine zs26 ?_;refine zs27 ?_;refine zs25 ?_;refine zs28 ?_;refine zs27 ?_;(first | refine aH1' rfl rfl rfl zb102 zb8 zb102 zb102 ?_ | ((try refine aHead_nil ?_);refine aL1 rfl rfl rfl zb8 ?_));refine zs29 ?_;(first | refine aH1' rfl rfl rfl zb102 zb28 zb102 zb102 ?_ | ((try refine aHead_nil ?_);refine aL1 rfl rfl rfl zb28 ?_));((try refine aHead_nil ?_);(refine aLappA rfl rfl rfl rfl zb61 zb61 zb57 zb102 zb33 zb101 zb101 (by (simp only [List.length_map,hw_len,List.length_take,List.length_cons,List.length_nil];omega)) zb42 zb53 ?_));refine zs30 ?_;refine zs31 ?_)
  (repeat (first | refine gk fun K hK=>?_ | refine zs2 ?_))
  refine zs151 ?_
  simp only [nx,inB]
  refine ⟨(wds z.natAbs).length - (k + 1),_,by omega,(Sh_to (sl':=[(1,.pt (.nm z)),(3,.own 3),(4,zI (k + 1 : Nat))]) (ow':=[(3,⟨3,1,(hw ((wds z.natAbs).take k)).map hN ++ [hN (x % 65536),hN (x / 65536)]⟩)]) zb19 zb37),k + 1,by omega,rfl,?_⟩
  rw [hw_take hx,List.map_append];rfl
 ·have hke : k = (wds z.natAbs).length:=by omega
  subst hke
  rw [List.take_length]
  (repeat (first | refine gk fun K hK=>?_ | refine zs2 ?_))
  refine zs150 ?_
  (repeat (first | refine gk fun K hK=>?_ | refine zs2 ?_))
  refine aW_no zb34 (decide_eq_false (by omega)) ?_
  (repeat (first | refine gk fun K hK=>?_ | refine zs2 ?_))
  refine aW_sh (Sh_shut' (k:=3) zb57 zb46 zb50) ?_
  refine zs152 ?_
  (repeat (first | refine gk fun K hK=>?_ | refine zs2 ?_))
  exact ⟨_,Sh.refl,.one (.tmp 2) _ rfl (.tmp 2 rfl)⟩
end DW
end Go.Proofs.YtcgjmdpcplhanaaGreat
namespace Go.Proofs.YtcgjmdpcplhanaaGreat
open Go.RowKit
namespace DW
theorem hd_len_le {n k : Nat} (h : n < 65536 ^ k) : (hd n).length≤k:=by
 apply Nat.le_of_not_lt
 intro hlt
 obtain ⟨j,hj⟩ : ∃ j,(hd n).length = j + 1:=⟨(hd n).length - 1,by omega⟩
 have h1:=Dg.nf_ge hj (Dg.dgs_spec (by decide) n).1
 rw [show Dg.vl 65536 (hd n) = n from (Dg.dgs_spec (by decide) n).2] at h1
 have h2:=Nat.pow_le_pow_right (n:=65536) (by omega) (show k≤j by omega)
 omega
theorem hd_lt (n : Nat) : n < 65536 ^ (hd n).length:=by
 have h:=Dg.vl_lt (Dg.dgs_spec (b:=65536) (by decide) n).1.dg
 rw [(Dg.dgs_spec (by decide) n).2] at h;exact h
theorem hd_mono {m n : Nat} (h : m≤n) : (hd m).length≤(hd n).length:=hd_len_le (Nat.lt_of_le_of_lt h (hd_lt n))
theorem wds_len (n : Nat) : (wds n).length≤(hd n).length:=by
 by_cases h0 : (wds n).length = 0
 ·omega
 ·obtain ⟨j,hj⟩ : ∃ j,(wds n).length = j + 1:=⟨(wds n).length - 1,by omega⟩
  have h1:=Dg.nf_ge hj (Dg.dgs_spec (b:=4294967296) (by decide) n).1
  rw [show Dg.vl 4294967296 (wds n) = n from (Dg.dgs_spec (by decide) n).2] at h1
  have h2 : (4294967296 : Nat) ^ j = 65536 ^ (2 * j):=by rw [Nat.pow_mul]
  rw [h2] at h1
  have h3:=Nat.lt_of_le_of_lt h1 (hd_lt n)
  have h4:=(Nat.pow_lt_pow_iff_right (by omega : 1 < 65536)).1 h3
  omega
theorem hd_dig (n : Nat) : Dg.dig 65536 (hd n):=(Dg.dgs_spec (by decide) n).1.dg
theorem hd_vl (n : Nat) : Dg.vl 65536 (hd n) = n:=(Dg.dgs_spec (by decide) n).2
theorem hd_nil (n : Nat) : (hd n).length = 0 ↔ n = 0:=by
 rw [List.length_eq_zero_iff];exact Dg.dgs_nil (by decide)
def Hf (z : Int) : Prop:=(hd z.natAbs).length≤200000000
theorem Hf.neg {z : Int} (h : Hf z) : Hf (-z):=by unfold Hf;rw [Int.natAbs_neg];exact h
theorem digits' {z : Int} (h : Hf z) : Fn Tryz.prog 151 [.nm z] (dN (hd z.natAbs)):=digits_d z (by have:=wds_len z.natAbs;unfold Hf at h;omega)
theorem trim' {l : List Nat} (hl : l.length≤900000000) (hdg : Dg.dig 65536 l) {n : Nat} (hv : Dg.vl 65536 l = n) : Fn Tryz.prog 188 [dN l] (dN (hd n)):=hv ▸ trim_d l hl hdg
theorem made' {s : Bool} {n : Nat} (h : (hd n).length≤900000000) {z : Int} (hz : Dg.iv s n = z) : Fn Tryz.prog 150 [.sc (.bool s),dN (hd n)] (.nm z):=by
 have:=made_d s (hd n) h (hd_dig n)
 rw [hd_vl,hz] at this;exact this
theorem iv_neg {z : Int} : Dg.iv (decide (z < 0)) z.natAbs = z:=by unfold Dg.iv;split <;> rename_i h <;> simp at h <;> omega
theorem iv_pos {z : Int} : Dg.iv (!decide (z < 0)) z.natAbs = -z:=by unfold Dg.iv;split <;> rename_i h <;> simp at h <;> omega
set_option maxRecDepth 20000
set_option maxHeartbeats 1000000
theorem normal_d (z : Int) (hz : Hf z) : Fn Tryz.prog 80 [.nm z] (.nm z):=by
 have D1:=digits' hz
 have M1:=made' (s:=decide (z < 0)) (n:=z.natAbs) (by unfold Hf at hz;omega) iv_neg
 refine fn_of Tryz.func80 zb101 rfl rfl rfl fun X0=>?_
 simp only [initL]
 (repeat (first | refine gk fun K hK=>?_ | refine zs2 ?_));refine zs153 ?_;(repeat (first | refine gk fun K hK=>?_ | refine zs2 ?_));(refine zs35 ?_;refine zs36 ?_;refine zs27 ?_;refine zs27 ?_;refine zs37 ?_;refine zs38 ?_;refine zs39 ?_;refine zs31 ?_);(repeat (first | refine gk fun K hK=>?_ | refine zs2 ?_))
 exact ⟨_,Sh_shut' (k:=2) zb57 zb46 zb50,.one (.cell 2 62) _ rfl (.cell 2 _ _ rfl rfl zb101 zb101)⟩
theorem neg_d (z : Int) (hz : Hf z) : Fn Tryz.prog 116 [.nm z] (.nm (-z)):=by
 have D1:=digits' hz
 have M1:=made' (s:=!decide (z < 0)) (n:=z.natAbs) (by unfold Hf at hz;omega) iv_pos
 refine fn_of Tryz.func116 zb101 rfl rfl rfl fun X0=>?_
 simp only [initL]
 (repeat (first | refine gk fun K hK=>?_ | refine zs2 ?_));refine zs153 ?_;(repeat (first | refine gk fun K hK=>?_ | refine zs2 ?_));(refine zs40 ?_;refine zs36 ?_;refine zs27 ?_;refine zs41 ?_;refine zs27 ?_;refine zs37 ?_;refine zs38 ?_;refine zs39 ?_;refine zs31 ?_);(repeat (first | refine gk fun K hK=>?_ | refine zs2 ?_))
 exact ⟨_,Sh_shut' (k:=2) zb57 zb46 zb50,.one (.cell 2 62) _ rfl (.cell 2 _ _ rfl rfl zb101 zb101)⟩
theorem sign_d (z : Int) (hz : Hf z) : Fn Tryz.prog 106 [.nm z] (zI (sgn z)):=by
 have D1:=digits' hz
 refine fn_of Tryz.func106 zb101 rfl rfl rfl fun X0=>?_
 simp only [initL]
 by_cases h0 : z = 0
 ·have hl : (hd z.natAbs).length = 0:=(hd_nil _).2 (by omega)
  (repeat (first | refine gk fun K hK=>?_ | refine zs2 ?_));refine zs154 ?_;(repeat (first | refine gk fun K hK=>?_ | refine zs2 ?_));(refine gar ?_;refine zs23 ?_;refine zs33 ?_;refine zs5 ?_;refine zs42 ?_;refine aL_nil ?_);(repeat (first | refine gk fun K hK=>?_ | refine zs2 ?_))
  refine aW_yes zb34 (decide_eq_true (by omega)) ?_
  (repeat (first | refine gk fun K hK=>?_ | refine zs2 ?_));refine zs149 ?_;(repeat (first | refine gk fun K hK=>?_ | refine zs2 ?_))
  rw [show sgn z = 0 by unfold sgn;rw [if_pos h0]]
  exact ⟨_,Sh.refl,.one (.tmp 2) _ rfl (.tmp 2 rfl)⟩
 ·have hl : (hd z.natAbs).length ≠ 0:=fun e=>h0 (by have:=(hd_nil _).1 e;omega)
  (repeat (first | refine gk fun K hK=>?_ | refine zs2 ?_));refine zs154 ?_;(repeat (first | refine gk fun K hK=>?_ | refine zs2 ?_));(refine gar ?_;refine zs23 ?_;refine zs33 ?_;refine zs5 ?_;refine zs42 ?_;refine aL_nil ?_);(repeat (first | refine gk fun K hK=>?_ | refine zs2 ?_))
  refine aW_no zb34 (decide_eq_false (by omega)) ?_
  (repeat (first | refine gk fun K hK=>?_ | refine zs2 ?_));refine zs155 ?_;(repeat (first | refine gk fun K hK=>?_ | refine zs2 ?_))
  by_cases h1 : z < 0
  ·refine aW_yes zb34 (decide_eq_true (by omega)) ?_
   (repeat (first | refine gk fun K hK=>?_ | refine zs2 ?_));refine zs149 ?_;(repeat (first | refine gk fun K hK=>?_ | refine zs2 ?_))
   rw [show sgn z = -1 by unfold sgn;rw [if_neg (by omega),if_pos h1]]
   exact ⟨_,Sh.refl,.one (.tmp 2) _ rfl (.tmp 2 rfl)⟩
  ·refine aW_no zb34 (decide_eq_false (by omega)) ?_
   (repeat (first | refine gk fun K hK=>?_ | refine zs2 ?_));refine zs149 ?_;(repeat (first | refine gk fun K hK=>?_ | refine zs2 ?_))
   rw [show sgn z = 1 by unfold sgn;rw [if_neg (by omega),if_neg (by omega)]]
   exact ⟨_,Sh.refl,.one (.tmp 2) _ rfl (.tmp 2 rfl)⟩
end DW
end Go.Proofs.YtcgjmdpcplhanaaGreat
namespace Go.Proofs.YtcgjmdpcplhanaaGreat
open Go.RowKit
namespace DW
theorem vl_snoc {b : Nat} (l : List Nat) (x : Nat) : Dg.vl b (l ++ [x]) = Dg.vl b l + b ^ l.length * x:=by rw [Dg.vl_append];simp [Dg.vl]
theorem dig_snoc {b : Nat} {l : List Nat} {x : Nat} (h : Dg.dig b l) (hx : x < b) : Dg.dig b (l ++ [x]):=Dg.dig_append h fun y hy=>by
 rw [List.mem_singleton.1 hy];exact hx
theorem map_snoc (l : List Nat) (x : Nat) : (l ++ [x]).map hN = l.map hN ++ [hN x]:=by rw [List.map_append];rfl
theorem of_len {l : List Nat} {m : Nat} (h : 65536 ^ l.length * m < 65536 ^ 4) (hm : 0 < m) : l.length < 4:=by
 have h1 : 65536 ^ l.length≤65536 ^ l.length * m:=Nat.le_mul_of_pos_right _ hm
 exact (Nat.pow_lt_pow_iff_right (by omega : 1 < 65536)).1 (Nat.lt_of_le_of_lt h1 h)
theorem of_step (l : List Nat) (m : Nat) : Dg.vl 65536 (l ++ [m % 65536]) + 65536 ^ (l ++ [m % 65536]).length * (m / 65536) = Dg.vl 65536 l + 65536 ^ l.length * m:=by
 rw [vl_snoc,List.length_append,List.length_singleton,Nat.pow_succ,Nat.mul_assoc,Nat.add_assoc,← Nat.mul_add]
 congr 2
 omega
set_option maxRecDepth 20000
set_option maxHeartbeats 1000000
theorem of_d (z : Int) (hz : -9223372036854775808 ≤ z ∧ z ≤ 9223372036854775807) : Fn Tryz.prog 81 [zI z] (.nm z) := by
  refine fn_of Tryz.func81 zb101 rfl rfl rfl fun X0 => ?_
  simp only [initL]
  have hb : z.natAbs < 65536 ^ 4 := by rw [show (65536 : Nat) ^ 4 = 18446744073709551616 by rfl]; omega
  (repeat (first | refine gk fun K hK => ?_ | refine zs2 ?_)); (refine gar ?_; refine zs34 ?_; refine aL_nil ?_); (repeat (first | refine gk fun K hK => ?_ | refine zs2 ?_)); refine zs145 ?_; (repeat (first | refine gk fun K hK => ?_ | refine zs2 ?_)); (refine gar ?_; refine zs4 ?_; refine zs7 ?_; refine zs6 ?_; refine aL_nil ?_); (repeat (first | refine gk fun K hK => ?_ | refine zs2 ?_))
  refine aW_sh (Sh_nil' (t := 3) (k := 3) (T := 3) (wd := 1) zb60 rfl rfl zb42) ?_
  by_cases hn : z < 0
  · have M : ∀ l : List Nat, Dg.vl 65536 l = z.natAbs → Dg.dig 65536 l → l.length ≤ 4 → Fn Tryz.prog 150 [.sc (.bool (decide (z < 0))), dN l] (.nm z) := fun l h1 h2 h3 => by
      have := made_d (decide (z < 0)) l (by omega) h2
      rwa [h1, iv_neg] at this
    (refine aW_sh (Sh_to (sl' := [(0, zI (-((z.natAbs : Nat) : Int))), (2, .opt 2 0), (3, .own 3), (4, .sc (.bool (decide (z < 0))))]) (ow' := [(3, ⟨3, 1, []⟩), (2, ⟨62, 2, [.nm 0]⟩)]) zb19 zb37) ?_)
    refine aW_loop (fun r s => ∃ l, Dg.dig 65536 l ∧ l.length ≤ 4 ∧ Dg.vl 65536 l + 65536 ^ l.length * r = z.natAbs ∧ r ≤ 9223372036854775808 ∧ s = ⟨[(0, zI (-(r : Int))), (2, .opt 2 0), (3, .own 3), (4, .sc (.bool (decide (z < 0))))], [(3, ⟨3, 1, l.map hN⟩), (2, ⟨62, 2, [.nm 0]⟩)]⟩) (m := z.natAbs) ⟨[], fun _ h => (by cases h), by simp, by simp [Dg.vl], by omega, rfl⟩ fun r s hs => ?_
    obtain ⟨l, h1, h2, h3, h4, rfl⟩ := hs
    by_cases hr : r = 0
    · subst hr
      (repeat (first | refine gk fun K hK => ?_ | refine zs2 ?_)); refine zs156 ?_; (repeat (first | refine gk fun K hK => ?_ | refine zs2 ?_))
      refine zs45 ?_
      (repeat (first | refine gk fun K hK => ?_ | refine zs2 ?_))
      refine aW_sh (Sh_shut' (k := 3) zb57 zb46 zb50) ?_
      (refine gar ?_; refine zs4 ?_; refine zs4 ?_; refine zs46 ?_; refine zs47 ?_; refine aL_nil ?_)
      (repeat (first | refine gk fun K hK => ?_ | refine zs2 ?_))
      exact ⟨_, Sh_shut' (k := 2) zb57 zb46 zb50, .one (.cell 2 62) _ rfl (.cell 2 _ _ rfl rfl zb101 zb101)⟩
    · have hl := of_len (l := l) (m := r) (by omega) (by omega)
      have e1 : (-(r : Int)).tmod 65536 = -((r % 65536 : Nat) : Int) := by rw [Int.neg_tmod]; rfl
      have e2 : (-(r : Int)).tdiv 65536 = -((r / 65536 : Nat) : Int) := by rw [Int.neg_tdiv]; rfl
      have h5 := of_step l r
      have h6 := dig_snoc h1 (Nat.mod_lt r (by omega : 0 < 65536))
      have h7 : (l ++ [r % 65536]).length = l.length + 1 := by simp
      have h8 := map_snoc l (r % 65536)
      (repeat (first | refine gk fun K hK => ?_ | refine zs2 ?_)); refine zs156 ?_; (repeat (first | refine gk fun K hK => ?_ | refine zs2 ?_))
      refine zs48 ?_
      by_cases hd0 : r % 65536 = 0
      all_goals
        (repeat (first | refine gk fun K hK => ?_ | refine zs2 ?_)); (refine gar ?_; refine zs4 ?_; refine zs49 ?_; refine zs6 ?_; refine aL_nil ?_); (repeat (first | refine gk fun K hK => ?_ | refine zs2 ?_)); refine zs157 ?_; (repeat (first | refine gk fun K hK => ?_ | refine zs2 ?_))
        (first | (refine zs48 ?_; (repeat (first | refine gk fun K hK => ?_ | refine zs2 ?_)); (refine gar ?_; refine zs4 ?_; (refine aL1 rfl rfl rfl (by (apply d_neg; (focus (exact rfl)); (focus ((apply op_b; (conv => lhs; whnf); (first | done | exact rfl)))); (focus (omega)))) ?_); refine zs6 ?_; refine aL_nil ?_); (repeat (first | refine gk fun K hK => ?_ | refine zs2 ?_))) | (refine zs45 ?_; (repeat (first | refine gk fun K hK => ?_ | refine zs2 ?_))))
        (refine aW_sh (Sh_to (sl' := [(0, zI (-(r : Int))), (2, .opt 2 0), (3, .own 3), (4, .sc (.bool (decide (z < 0)))), (5, hN (r % 65536))]) (ow' := [(3, ⟨3, 1, l.map hN⟩), (2, ⟨62, 2, [.nm 0]⟩)]) zb19 zb37) ?_)
        (repeat (first | refine gk fun K hK => ?_ | refine zs2 ?_)); refine zs158 ?_; (repeat (first | refine gk fun K hK => ?_ | refine zs2 ?_)); refine zs159 ?_; (repeat (first | refine gk fun K hK => ?_ | refine zs2 ?_))
        simp only [nx, inB]
        exact ⟨r / 65536, _, by omega, (Sh_to (sl' := [(0, zI (-((r / 65536 : Nat) : Int))), (2, .opt 2 0), (3, .own 3), (4, .sc (.bool (decide (z < 0))))]) (ow' := [(3, ⟨3, 1, l.map hN ++ [hN (r % 65536)]⟩), (2, ⟨62, 2, [.nm 0]⟩)]) zb19 zb37), l ++ [r % 65536], h6, by omega, by omega, by omega, by rw [h8]⟩
  · have M : ∀ l : List Nat, Dg.vl 65536 l = z.natAbs → Dg.dig 65536 l → l.length ≤ 4 → Fn Tryz.prog 150 [.sc (.bool (decide (z < 0))), dN l] (.nm z) := fun l h1 h2 h3 => by
      have := made_d (decide (z < 0)) l (by omega) h2
      rwa [h1, iv_neg] at this
    (refine aW_sh (Sh_to (sl' := [(0, zI ((z.natAbs : Nat) : Int)), (2, .opt 2 0), (3, .own 3), (4, .sc (.bool (decide (z < 0))))]) (ow' := [(3, ⟨3, 1, []⟩), (2, ⟨62, 2, [.nm 0]⟩)]) zb19 zb37) ?_)
    refine aW_loop (fun r s => ∃ l, Dg.dig 65536 l ∧ l.length ≤ 4 ∧ Dg.vl 65536 l + 65536 ^ l.length * r = z.natAbs ∧ r ≤ 9223372036854775807 ∧ s = ⟨[(0, zI (r : Int)), (2, .opt 2 0), (3, .own 3), (4, .sc (.bool (decide (z < 0))))], [(3, ⟨3, 1, l.map hN⟩), (2, ⟨62, 2, [.nm 0]⟩)]⟩) (m := z.natAbs) ⟨[], fun _ h => (by cases h), by simp, by simp [Dg.vl], by omega, rfl⟩ fun r s hs => ?_
    obtain ⟨l, h1, h2, h3, h4, rfl⟩ := hs
    by_cases hr : r = 0
    · subst hr
      (repeat (first | refine gk fun K hK => ?_ | refine zs2 ?_)); refine zs156 ?_; (repeat (first | refine gk fun K hK => ?_ | refine zs2 ?_))
      refine zs45 ?_
      (repeat (first | refine gk fun K hK => ?_ | refine zs2 ?_))
      refine aW_sh (Sh_shut' (k := 3) zb57 zb46 zb50) ?_
      (refine gar ?_; refine zs4 ?_; refine zs4 ?_; refine zs46 ?_; refine zs47 ?_; refine aL_nil ?_)
      (repeat (first | refine gk fun K hK => ?_ | refine zs2 ?_))
      exact ⟨_, Sh_shut' (k := 2) zb57 zb46 zb50, .one (.cell 2 62) _ rfl (.cell 2 _ _ rfl rfl zb101 zb101)⟩
    · have hl := of_len (l := l) (m := r) (by omega) (by omega)
      have h5 := of_step l r
      have h6 := dig_snoc h1 (Nat.mod_lt r (by omega : 0 < 65536))
      have h7 : (l ++ [r % 65536]).length = l.length + 1 := by simp
      have h8 := map_snoc l (r % 65536)
      (repeat (first | refine gk fun K hK => ?_ | refine zs2 ?_)); refine zs156 ?_; (repeat (first | refine gk fun K hK => ?_ | refine zs2 ?_))
      refine zs48 ?_
      (repeat (first | refine gk fun K hK => ?_ | refine zs2 ?_)); (refine gar ?_; refine zs4 ?_; refine zs49 ?_; refine zs6 ?_; refine aL_nil ?_); (repeat (first | refine gk fun K hK => ?_ | refine zs2 ?_)); refine zs157 ?_; (repeat (first | refine gk fun K hK => ?_ | refine zs2 ?_))
      refine zs45 ?_
      (repeat (first | refine gk fun K hK => ?_ | refine zs2 ?_)); refine zs158 ?_; (repeat (first | refine gk fun K hK => ?_ | refine zs2 ?_)); refine zs159 ?_; (repeat (first | refine gk fun K hK => ?_ | refine zs2 ?_))
      simp only [nx, inB]
      exact ⟨r / 65536, _, by omega, (Sh_to (sl' := [(0, hN (r / 65536)), (2, .opt 2 0), (3, .own 3), (4, .sc (.bool (decide (z < 0))))]) (ow' := [(3, ⟨3, 1, l.map hN ++ [hN (r % 65536)]⟩), (2, ⟨62, 2, [.nm 0]⟩)]) zb19 zb37), l ++ [r % 65536], h6, by omega, by omega, by omega, by rw [h8]⟩
end DW
end Go.Proofs.YtcgjmdpcplhanaaGreat
namespace Go.Proofs.YtcgjmdpcplhanaaGreat
open Go.RowKit
namespace DW
theorem hd_inj {a b : Nat} (h : hd a = hd b) : a = b:=by rw [← hd_vl a,← hd_vl b,h]
theorem hd_len_lt {a b : Nat} (h : (hd a).length < (hd b).length) : a < b:=by
 have:=Dg.nf_lt_len (b:=65536) (by decide) (Dg.dgs_spec (by decide) a).1 (Dg.dgs_spec (by decide) b).1 h
 rwa [(Dg.dgs_spec (by decide) a).2,(Dg.dgs_spec (by decide) b).2] at this
theorem hd_lex {a b i : Nat} (hi : i < (hd a).length) (hl : (hd a).length = (hd b).length) (hd' : (hd a).drop (i + 1) = (hd b).drop (i + 1)) (h : (hd a).getD i 0 < (hd b).getD i 0) : a < b:=by
 have:=Dg.lex_lt (hd_dig a) hi hl hd' h
 rwa [hd_vl,hd_vl] at this
theorem hd_drop {a i : Nat} (hi : i < (hd a).length) : (hd a).drop i = (hd a).getD i 0 :: (hd a).drop (i + 1):=by
 rw [List.drop_eq_getElem_cons hi,List.getD_eq_getElem?_getD,List.getElem?_eq_getElem hi];rfl
theorem hd_get {a i : Nat} (hi : i < (hd a).length) : (hd a)[i]? = some ((hd a).getD i 0):=get_of_lt hi
theorem getD_hi {l : List Nat} {i : Nat} (h : l.length≤i) : l.getD i 0 = 0:=by rw [List.getD_eq_getElem?_getD,List.getElem?_eq_none h];rfl
set_option maxRecDepth 20000
set_option maxHeartbeats 1000000
theorem less_d (a b : Nat) (ha : (hd a).length ≤ 900000000) (hb : (hd b).length ≤ 900000000) : Fn Tryz.prog 153 [dN (hd a), dN (hd b)] (.sc (.bool (decide (a < b)))) := by
  refine fn_of Tryz.func153 zb101 rfl rfl rfl fun X0 => ?_
  simp only [initL]
  by_cases hl : (hd a).length = (hd b).length
  · (repeat (first | refine gk fun K hK => ?_ | refine zs2 ?_)); refine zs160 ?_; (repeat (first | refine gk fun K hK => ?_ | refine zs2 ?_)); refine zs161 ?_; (repeat (first | refine gk fun K hK => ?_ | refine zs2 ?_))
    refine zs45 ?_
    (repeat (first | refine gk fun K hK => ?_ | refine zs2 ?_)); refine zs162 ?_; (repeat (first | refine gk fun K hK => ?_ | refine zs2 ?_))
    (refine aW_sh (Sh_to (sl' := [(0, dN (hd a)), (1, dN (hd b)), (5, zI ((hd a).length - 1))]) (ow' := []) zb19 zb37) ?_)
    refine aW_loop (fun r s => r ≤ (hd a).length ∧ (hd a).drop r = (hd b).drop r ∧ s = ⟨[(0, dN (hd a)), (1, dN (hd b)), (5, zI (r - 1))], []⟩) (m := (hd a).length) ⟨Nat.le_refl _, by rw [List.drop_length, hl, List.drop_length], rfl⟩ fun r s hs => ?_
    obtain ⟨h1, h2, rfl⟩ := hs
    by_cases hr : r = 0
    · have e : a = b := hd_inj (by subst hr; simpa using h2)
      (repeat (first | refine gk fun K hK => ?_ | refine zs2 ?_)); refine zs157 ?_; (repeat (first | refine gk fun K hK => ?_ | refine zs2 ?_))
      refine zs45 ?_
      (repeat (first | refine gk fun K hK => ?_ | refine zs2 ?_)); refine zs160 ?_; (repeat (first | refine gk fun K hK => ?_ | refine zs2 ?_))
      rw [show decide (a < b) = false from decide_eq_false (by omega)]
      exact ⟨_, Sh.refl, .one (.tmp 4) _ rfl (.tmp 4 rfl)⟩
    · obtain ⟨i, rfl⟩ : ∃ i, r = i + 1 := ⟨r - 1, by omega⟩
      have hi : i < (hd a).length := by omega
      have hi' : i < (hd b).length := by omega
      have hx := hd_get hi
      have hy := hd_get hi'
      have hc : ((i + 1 : Nat) : Int) - 1 = (i : Int) := by omega
      have k1 := hd_drop hi
      have k2 := hd_drop hi'
      have k3 : (hd a).getD i 0 < (hd b).getD i 0 → a < b := hd_lex hi hl h2
      have k4 : (hd b).getD i 0 < (hd a).getD i 0 → b < a := hd_lex hi' hl.symm h2.symm
      obtain ⟨x, hxd⟩ : ∃ x, x = (hd a).getD i 0 := ⟨_, rfl⟩
      obtain ⟨y, hyd⟩ : ∃ y, y = (hd b).getD i 0 := ⟨_, rfl⟩
      rw [← hxd] at hx k1 k3 k4
      rw [← hyd] at hy k2 k3 k4
      by_cases hxy : x = y
      · have k5 : (hd a).drop i = (hd b).drop i := by rw [k1, k2, hxy, h2]
        (repeat (first | refine gk fun K hK => ?_ | refine zs2 ?_)); refine zs157 ?_; (repeat (first | refine gk fun K hK => ?_ | refine zs2 ?_))
        refine zs48 ?_
        (repeat (first | refine gk fun K hK => ?_ | refine zs2 ?_)); refine zs163 ?_; (repeat (first | refine gk fun K hK => ?_ | refine zs2 ?_))
        refine zs45 ?_
        (repeat (first | refine gk fun K hK => ?_ | refine zs2 ?_)); refine zs148 ?_; (repeat (first | refine gk fun K hK => ?_ | refine zs2 ?_))
        simp only [nx, inB]
        exact ⟨i, _, by omega, (Sh_to (sl' := [(0, dN (hd a)), (1, dN (hd b)), (5, zI ((i : Int) - 1))]) (ow' := []) zb19 zb37), by omega, k5, rfl⟩
      · have k5 : decide ((x : Int) < (y : Int)) = decide (a < b) := by
          by_cases h : x < y
          · rw [decide_eq_true (by omega), decide_eq_true (k3 h)]
          · rw [decide_eq_false (by omega), decide_eq_false (by have := k4 (by omega); omega)]
        (repeat (first | refine gk fun K hK => ?_ | refine zs2 ?_)); refine zs157 ?_; (repeat (first | refine gk fun K hK => ?_ | refine zs2 ?_))
        refine zs48 ?_
        (repeat (first | refine gk fun K hK => ?_ | refine zs2 ?_)); refine zs163 ?_; (repeat (first | refine gk fun K hK => ?_ | refine zs2 ?_))
        refine zs48 ?_
        (repeat (first | refine gk fun K hK => ?_ | refine zs2 ?_)); (refine zs59 ?_; refine zs25 ?_; refine zs25 ?_; refine zs56 ?_; refine zs57 ?_; refine zs25 ?_; refine zs25 ?_; refine zs56 ?_; refine zs57 ?_; (first | refine aH1' rfl rfl rfl zb102 zb30 zb102 zb102 ?_ | ((try refine aHead_nil ?_); refine aL1 rfl rfl rfl zb30 ?_)); refine zs30 ?_; refine zs31 ?_); (repeat (first | refine gk fun K hK => ?_ | refine zs2 ?_))
        rw [← k5]
        exact ⟨_, Sh.refl, .one (.tmp 4) _ rfl (.tmp 4 rfl)⟩
  · have k5 : decide (((hd a).length : Int) < ((hd b).length : Int)) = decide (a < b) := by
      by_cases h : (hd a).length < (hd b).length
      · rw [decide_eq_true (by omega), decide_eq_true (hd_len_lt h)]
      · rw [decide_eq_false (by omega), decide_eq_false (by have := hd_len_lt (a := b) (b := a) (by omega); omega)]
    (repeat (first | refine gk fun K hK => ?_ | refine zs2 ?_)); refine zs160 ?_; (repeat (first | refine gk fun K hK => ?_ | refine zs2 ?_)); refine zs161 ?_; (repeat (first | refine gk fun K hK => ?_ | refine zs2 ?_))
    refine zs48 ?_
    (repeat (first | refine gk fun K hK => ?_ | refine zs2 ?_)); (refine gar ?_; refine zs4 ?_; refine zs5 ?_; refine zs4 ?_; refine zs5 ?_; refine zs24 ?_; refine zs6 ?_; refine aL_nil ?_); (repeat (first | refine gk fun K hK => ?_ | refine zs2 ?_))
    rw [← k5]
    exact ⟨_, Sh.refl, .one (.tmp 4) _ rfl (.tmp 4 rfl)⟩
theorem plus_snoc {a b o : List Nat} {i c : Nat} (hi : o.length = i) (h : Dg.vl 65536 o + c * 65536 ^ i = Dg.vl 65536 (a.take i) + Dg.vl 65536 (b.take i)) :
  Dg.vl 65536 (o ++ [(c + a.getD i 0 + b.getD i 0) % 65536]) + (c + a.getD i 0 + b.getD i 0) / 65536 * 65536 ^ (i + 1) = Dg.vl 65536 (a.take (i + 1)) + Dg.vl 65536 (b.take (i + 1)):=by
 have:=Dg.plus_step (B:=65536) (a:=a) (b:=b) (o:=o ++ [0]) (i:=i) (c:=c) zb100 zb51
 rw [show a.getD i 0 + b.getD i 0 + c = c + a.getD i 0 + b.getD i 0 by omega,Dg.take_set_succ zb100,List.take_append_of_le_length (by omega),List.take_of_length_le (by omega)] at this
 exact this
theorem plus_dn (a b : Nat) (ha : (hd a).length ≤ 400000000) (hb : (hd b).length ≤ 400000000) : Fn Tryz.prog 152 [dN (hd a), dN (hd b)] (dN (hd (a + b))) := by
  refine fn_of Tryz.func152 zb101 rfl rfl rfl fun X0 => ?_
  simp only [initL]
  (repeat (first | refine gk fun K hK => ?_ | refine zs2 ?_)); refine zs145 ?_; (repeat (first | refine gk fun K hK => ?_ | refine zs2 ?_)); refine zs145 ?_; (repeat (first | refine gk fun K hK => ?_ | refine zs2 ?_)); refine zs149 ?_; (repeat (first | refine gk fun K hK => ?_ | refine zs2 ?_)); refine zs149 ?_; (repeat (first | refine gk fun K hK => ?_ | refine zs2 ?_))
  refine aW_sh (Sh_nil' (t := 5) (k := 5) (T := 3) (wd := 1) zb60 rfl rfl zb42) ?_
  (refine aW_sh (Sh_to (sl' := [(0, dN (hd a)), (1, dN (hd b)), (5, .own 5), (6, zI 0), (7, zI 0)]) (ow' := [(5, ⟨3, 1, []⟩)]) zb19 zb37) ?_)
  obtain ⟨M, hM⟩ : ∃ M, M = max (hd a).length (hd b).length := ⟨_, rfl⟩
  refine aW_loop (fun r s => ∃ i o c, r = M + 1 - i ∧ o.length = i ∧ Dg.dig 65536 o ∧ c ≤ 1 ∧ (i ≤ M ∨ (i ≤ M + 1 ∧ c = 0)) ∧ Dg.vl 65536 o + c * 65536 ^ i = Dg.vl 65536 ((hd a).take i) + Dg.vl 65536 ((hd b).take i) ∧ s = ⟨[(0, dN (hd a)), (1, dN (hd b)), (5, .own 5), (6, zI (c : Nat)), (7, zI (i : Nat))], [(5, ⟨3, 1, o.map hN⟩)]⟩) (m := M + 1) ⟨0, [], 0, by omega, rfl, fun _ h => (by cases h), by omega, .inl (by omega), by simp [Dg.vl], rfl⟩ fun r s hs => ?_
  obtain ⟨i, o, c, rfl, ho, hdo, hc, hiM, hv, rfl⟩ := hs
  have STEP := plus_snoc (a := hd a) (b := hd b) ho hv
  have hxl : (hd a).getD i 0 < 65536 := Dg.getD_lt (hd_dig a) (by decide) i
  have hyl : (hd b).getD i 0 < 65536 := Dg.getD_lt (hd_dig b) (by decide) i
  have hx : i < (hd a).length → (hd a)[i]? = some ((hd a).getD i 0) := hd_get
  have hy : i < (hd b).length → (hd b)[i]? = some ((hd b).getD i 0) := hd_get
  have hx0 : (hd a).length ≤ i → (hd a).getD i 0 = 0 := getD_hi
  have hy0 : (hd b).length ≤ i → (hd b).getD i 0 = 0 := getD_hi
  obtain ⟨x, hxd⟩ : ∃ x, x = (hd a).getD i 0 := ⟨_, rfl⟩
  obtain ⟨y, hyd⟩ : ∃ y, y = (hd b).getD i 0 := ⟨_, rfl⟩
  rw [← hxd] at STEP hxl hx hx0
  rw [← hyd] at STEP hyl hy hy0
  have hdig := dig_snoc hdo (Nat.mod_lt (c + x + y) (by omega : 0 < 65536))
  have hms := map_snoc o ((c + x + y) % 65536)
  have hlen : (o ++ [(c + x + y) % 65536]).length = i + 1 := by simp [ho]
  have kx : (hd a).length ≤ M := by omega
  have ky : (hd b).length ≤ M := by omega
  have kM : M ≤ (hd a).length ∨ M ≤ (hd b).length := by omega
  have kM2 : M ≤ 400000000 := by omega
  clear hM hxd hyd
  by_cases hend : M ≤ i ∧ c = 0
  · obtain ⟨h1, h2⟩ := hend
    have e : Dg.vl 65536 o = a + b := by
      subst h2
      rw [List.take_of_length_le (by omega), List.take_of_length_le (by omega), hd_vl, hd_vl] at hv
      omega
    have T := trim' (l := o) (by omega) hdo e
    (repeat (first | refine gk fun K hK => ?_ | refine zs2 ?_)); refine zs164 ?_; (repeat (first | refine gk fun K hK => ?_ | refine zs2 ?_))
    refine zs45 ?_
    (repeat (first | refine gk fun K hK => ?_ | refine zs2 ?_))
    refine aW_sh (Sh_shut' (k := 5) zb57 zb46 zb50) ?_
    refine zs152 ?_
    (repeat (first | refine gk fun K hK => ?_ | refine zs2 ?_))
    exact ⟨_, Sh.refl, .one (.tmp 4) _ rfl (.tmp 4 rfl)⟩
  · have hcases : ((i < (hd a).length) ∨ (i < (hd b).length ∧ (hd a).length ≤ i)) ∨ (c > 0 ∧ (hd a).length ≤ i ∧ (hd b).length ≤ i) := by omega
    have hxe : i < (hd a).length ∨ ((hd a).length ≤ i ∧ x = 0) := by
      by_cases h : i < (hd a).length
      · exact .inl h
      · exact .inr ⟨by omega, hx0 (by omega)⟩
    have hye : i < (hd b).length ∨ ((hd b).length ≤ i ∧ y = 0) := by
      by_cases h : i < (hd b).length
      · exact .inl h
      · exact .inr ⟨by omega, hy0 (by omega)⟩
    rcases hcases with (h1 | ⟨h1, h2⟩) | ⟨h1, h2, h3⟩
    all_goals
      rcases hxe with h4 | ⟨h4, h5⟩
      all_goals
        rcases hye with h6 | ⟨h6, h7⟩
        all_goals
          first
            | (exfalso; omega; done)
            | ((repeat (first | refine gk fun K hK => ?_ | refine zs2 ?_)); refine zs164 ?_; (repeat (first | refine gk fun K hK => ?_ | refine zs2 ?_))
               refine zs48 ?_
               (repeat (first | refine gk fun K hK => ?_ | refine zs2 ?_)); refine zs165 ?_; (repeat (first | refine gk fun K hK => ?_ | refine zs2 ?_))
               (first | (refine zs48 ?_; (repeat (first | refine gk fun K hK => ?_ | refine zs2 ?_)); (refine gar ?_; refine zs4 ?_; refine zs4 ?_; refine zs4 ?_; (refine aL1 rfl rfl rfl (by (first | (apply does_index; (focus (exact rfl)); (focus ((apply op_b; (conv => lhs; whnf); (first | done | exact rfl)))); (focus ((apply op_b; (conv => lhs; whnf); (first | done | exact rfl)))); (focus (kernel_rfl)); (focus (kernel_rfl)); (focus (omega)); (focus ((first | (apply get_map; exact hx h4) | (apply get_map; assumption) | (apply get_own; assumption))))) | (apply d_index_own; (focus (exact rfl)); (focus ((apply op_b; (conv => lhs; whnf); (first | done | exact rfl)))); (focus ((apply op_b; (conv => lhs; whnf); (first | done | exact rfl)))); (focus ((repeat (first | exact List.mem_cons_self | refine List.mem_cons_of_mem _ ?_)))); (focus (kernel_rfl)); (focus (kernel_rfl)); (focus (first | omega | (simp; omega))); (focus (first | (apply offs_nat; assumption) | exact rfl))))) ?_); (refine aL1 rfl rfl rfl (by (first | (apply d_load; (focus (exact rfl)); (focus ((apply op_b; (conv => lhs; whnf); (first | done | exact rfl)))); (focus (exact rfl)); (focus ((first | exact wd_ls | exact wd_sc | exact wd_nm | exact wd_pt | exact rfl))); (focus (exact rfl)); (focus (kernel_rfl)); (focus (kernel_rfl))) | (apply d_load_own; (focus (exact rfl)); (focus ((apply op_b; (conv => lhs; whnf); (first | done | exact rfl)))); (focus ((repeat (first | exact List.mem_cons_self | refine List.mem_cons_of_mem _ ?_)))); (focus (exact get_one)); (focus (exact rfl)); (focus (exact rfl)); (focus ((first | exact wd_ls | exact wd_sc | exact wd_nm | exact wd_pt | exact rfl))); (focus (exact rfl)); (focus (kernel_rfl)); (focus (kernel_rfl))) | (apply d_load_ownO; (focus (exact rfl)); (focus ((apply op_b; (conv => lhs; whnf); (first | done | exact rfl)))); (focus ((repeat (first | exact List.mem_cons_self | refine List.mem_cons_of_mem _ ?_)))); (focus (exact rfl)); (focus ((first | exact get_one | (apply get_map1; assumption) | assumption | (apply get_map; exact hx h4) | exact rfl))); (focus (exact rfl)); (focus ((first | exact wd_ls | exact wd_sc | exact wd_nm | exact wd_pt | exact rfl))); (focus (exact rfl)); (focus (kernel_rfl)); (focus (kernel_rfl))))) ?_); refine zs64 ?_; refine zs6 ?_; refine aL_nil ?_); (repeat (first | refine gk fun K hK => ?_ | refine zs2 ?_))) | (refine zs45 ?_; (repeat (first | refine gk fun K hK => ?_ | refine zs2 ?_))))
               (repeat (first | refine gk fun K hK => ?_ | refine zs2 ?_)); refine zs165 ?_; (repeat (first | refine gk fun K hK => ?_ | refine zs2 ?_))
               (first | (refine zs48 ?_; (repeat (first | refine gk fun K hK => ?_ | refine zs2 ?_)); (refine gar ?_; refine zs4 ?_; refine zs4 ?_; refine zs4 ?_; refine zs65 ?_; refine zs66 ?_; refine zs64 ?_; refine zs6 ?_; refine aL_nil ?_); (repeat (first | refine gk fun K hK => ?_ | refine zs2 ?_))) | (refine zs45 ?_; (repeat (first | refine gk fun K hK => ?_ | refine zs2 ?_))))
               (refine aW_sh (Sh_to (sl' := [(0, dN (hd a)), (1, dN (hd b)), (5, .own 5), (6, zI ((c + x + y : Nat) : Int)), (7, zI (i : Nat))]) (ow' := [(5, ⟨3, 1, o.map hN⟩)]) zb19 zb37) ?_)
               (repeat (first | refine gk fun K hK => ?_ | refine zs2 ?_)); (refine gar ?_; refine zs4 ?_; refine zs4 ?_; refine zs49 ?_; refine zs50 ?_; refine zs51 ?_; refine zs6 ?_; refine aL_nil ?_); (repeat (first | refine gk fun K hK => ?_ | refine zs2 ?_)); refine zs159 ?_; (repeat (first | refine gk fun K hK => ?_ | refine zs2 ?_)); refine zs151 ?_; (repeat (first | refine gk fun K hK => ?_ | refine zs2 ?_))
               simp only [nx, inB]
               exact ⟨M + 1 - (i + 1), _, by omega, (Sh_to (sl' := [(0, dN (hd a)), (1, dN (hd b)), (5, .own 5), (6, zI (((c + x + y) / 65536 : Nat) : Int)), (7, zI ((i + 1 : Nat) : Int))]) (ow' := [(5, ⟨3, 1, o.map hN ++ [hN ((c + x + y) % 65536)]⟩)]) zb19 zb37), i + 1, o ++ [(c + x + y) % 65536], (c + x + y) / 65536, rfl, hlen, hdig, by omega, by omega, STEP, by rw [hms]⟩)
end DW
end Go.Proofs.YtcgjmdpcplhanaaGreat
