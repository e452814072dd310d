/- Lemmas for the law: E14 -/
import Derived.Test.YtcgjmdpcplhanaaGreatZn8
namespace Go.Proofs.YtcgjmdpcplhanaaGreat
theorem zb20 {p : Prop} (h : p:=by (apply killL_cons;(focus ((apply killL_cons;(focus (exact killL_nil));(focus ((repeat (first | exact kill_nil | (apply kill_keep;(focus (exact rfl))) | (apply kill_hit;(focus (exact rfl))))))))));(focus ((repeat (first | exact kill_nil | (apply kill_keep;(focus (exact rfl))) | (apply kill_hit;(focus (exact rfl))))))))) : p:=h
theorem zb15 {p : Prop} (h : p:=by (apply d_call3;(focus (exact rfl));(focus ((apply op_b;(conv=>lhs;whnf);(first | done | exact rfl))));(focus ((apply op_b;(conv=>lhs;whnf);(first | done | exact rfl))));(focus ((apply op_b;(conv=>lhs;whnf);(first | done | exact rfl))));(focus (exact rfl));(focus (exact rfl));(focus (exact rfl));(focus (assumption));(focus (exact rfl)))) : p:=h
theorem zs106 {p q : Prop} (h : q) (f : Wq q→p:=by (intro hW;((first | refine aH1' rfl rfl rfl zb102 zb15 zb102 zb102 ?_ | ((try refine aHead_nil ?_);refine aL1 rfl rfl rfl zb15 ?_)));exact hW.out)) : p:=f ⟨h⟩
theorem zs107 {p q : Prop} (h : q) (f : Wq q→p:=by (intro hW;(((try refine aHead_nil ?_);(refine aLstore (i:=j) rfl rfl rfl zb61 zb61 zb57 zb102 zb63 zb102 zb59 zb102 zb101 zb48 ?_)));exact hW.out)) : p:=f ⟨h⟩
theorem zs195 {p q : Prop} (h : q) (f : Wq q→p:=by (intro hW;((refine zs92 ?_;refine zs25 ?_;refine zs25 ?_;refine zs25 ?_;refine zs25 ?_;refine zs28 ?_;refine zs27 ?_;refine zs25 ?_;refine zs25 ?_;refine zs28 ?_;refine zs27 ?_;refine zs27 ?_;refine zs106 ?_;refine zs28 ?_;refine zs107 ?_;refine zs31 ?_));exact hW.out)) : p:=f ⟨h⟩
theorem zs101 {p q : Prop} (h : q) (f : Wq q→p:=by (intro hW;((first | refine aN1 rfl rfl rfl zb26 ?_ | refine aN1o rfl rfl rfl zb26 ?_));exact hW.out)) : p:=f ⟨h⟩
theorem zs112 {p q : Prop} (h : q) (f : Wq q→p:=by (intro hW;((first | (first | (refine aHs rfl rfl rfl rfl rfl ?_ ?_;(focus (apply look_b;(conv=>lhs;whnf);(first | done | exact rfl | (apply sc_bool;(first | (apply decide_eq_true;omega) | (apply decide_eq_false;omega) | assumption | (simp;done))))))) | refine aHw' rfl rfl rfl rfl rfl zb31 zb102 zb32 zb102 zb102 ?_) | ((try refine aHead_nil ?_);(first | (refine aLs rfl rfl rfl rfl ?_ ?_;(focus (apply look_b;(conv=>lhs;whnf);(first | done | exact rfl | (apply sc_bool;(first | (apply decide_eq_true;omega) | (apply decide_eq_false;omega) | assumption | (simp;done))))))) | refine aLw rfl rfl rfl rfl zb31 zb32 ?_))));exact hW.out)) : p:=f ⟨h⟩
theorem zs110 {p q : Prop} (h : q) (f : Wq q→p:=by (intro hW;((first | (first | (refine aHs rfl rfl rfl rfl rfl ?_ ?_;(focus (apply look_b;(conv=>lhs;whnf);(first | done | exact rfl | (apply sc_bool;(first | (apply decide_eq_true;omega) | (apply decide_eq_false;omega) | assumption | (simp;done))))))) | refine aHw' rfl rfl rfl rfl rfl zb31 zb102 zb45 zb102 zb102 ?_) | ((try refine aHead_nil ?_);(first | (refine aLs rfl rfl rfl rfl ?_ ?_;(focus (apply look_b;(conv=>lhs;whnf);(first | done | exact rfl | (apply sc_bool;(first | (apply decide_eq_true;omega) | (apply decide_eq_false;omega) | assumption | (simp;done))))))) | refine aLw rfl rfl rfl rfl zb31 zb45 ?_))));exact hW.out)) : p:=f ⟨h⟩
theorem zs113 {p q : Prop} (h : q) (f : Wq q→p:=by (intro hW;((first | (first | (refine aHs rfl rfl rfl rfl rfl ?_ ?_;(focus (apply look_b;(conv=>lhs;whnf);(first | done | exact rfl | (apply sc_bool;(first | (apply decide_eq_true;omega) | (apply decide_eq_false;omega) | assumption | (simp;done))))))) | refine aHw' rfl rfl rfl rfl rfl zb31 zb102 zb35 zb102 zb102 ?_) | ((try refine aHead_nil ?_);(first | (refine aLs rfl rfl rfl rfl ?_ ?_;(focus (apply look_b;(conv=>lhs;whnf);(first | done | exact rfl | (apply sc_bool;(first | (apply decide_eq_true;omega) | (apply decide_eq_false;omega) | assumption | (simp;done))))))) | refine aLw rfl rfl rfl rfl zb31 zb35 ?_))));exact hW.out)) : p:=f ⟨h⟩
theorem zs109 {p q : Prop} (h : q) (f : Wq q→p:=by (intro hW;((first | (apply aW_draw 21;(focus kernel_rfl);(focus (decide +kernel))) | (apply aW_draw 20;(focus kernel_rfl);(focus (decide +kernel))) | (apply aW_draw 19;(focus kernel_rfl);(focus (decide +kernel))) | (apply aW_draw 18;(focus kernel_rfl);(focus (decide +kernel))) | (apply aW_draw 17;(focus kernel_rfl);(focus (decide +kernel))) | (apply aW_draw 16;(focus kernel_rfl);(focus (decide +kernel))) | (apply aW_draw 15;(focus kernel_rfl);(focus (decide +kernel))) | (apply aW_draw 14;(focus kernel_rfl);(focus (decide +kernel))));simp only [List.take_succ_cons,List.take_zero,List.drop_succ_cons,List.drop_zero]);exact hW.out)) : p:=f ⟨h⟩
theorem zs111 {p q : Prop} (h : q) (f : Wq q→p:=by (intro hW;((first | (first | (refine aHs rfl rfl rfl rfl rfl ?_ ?_;(focus (apply look_b;(conv=>lhs;whnf);(first | done | exact rfl | (apply sc_bool;(first | (apply decide_eq_true;omega) | (apply decide_eq_false;omega) | assumption | (simp;done))))))) | refine aHw' rfl rfl rfl rfl rfl zb31 zb102 zb4 zb102 zb102 ?_) | ((try refine aHead_nil ?_);(first | (refine aLs rfl rfl rfl rfl ?_ ?_;(focus (apply look_b;(conv=>lhs;whnf);(first | done | exact rfl | (apply sc_bool;(first | (apply decide_eq_true;omega) | (apply decide_eq_false;omega) | assumption | (simp;done))))))) | refine aLw rfl rfl rfl rfl zb31 zb4 ?_))));exact hW.out)) : p:=f ⟨h⟩
theorem zs198 {p q : Prop} (h : q) (f : Wq q→p:=by (intro hW;((refine zs109 ?_;refine zs25 ?_;refine zs82 ?_;refine zs25 ?_;refine zs110 ?_;refine zs110 ?_;refine zs111 ?_;refine zs83 ?_;refine zs110 ?_;refine zs111 ?_;refine zs83 ?_;refine zs113 ?_;refine zs110 ?_;refine zs110 ?_;refine zs111 ?_;refine zs83 ?_;refine zs110 ?_;refine zs111 ?_;refine zs83 ?_;refine zs113 ?_;refine zs85 ?_;refine zs86 ?_;refine zs87 ?_;refine zs31 ?_));exact hW.out)) : p:=f ⟨h⟩
theorem zs199 {p q : Prop} (h : q) (f : Wq q→p:=by (intro hW;((refine gar ?_;refine zs4 ?_;refine zs94 ?_;refine aL_nil ?_));exact hW.out)) : p:=f ⟨h⟩
theorem zb10 {p : Prop} (h : p:=by (apply (d_make (zv:=(.agg #[.bool false,.slice none 0 0])) (d0:=(.nm 0)) (wd:=2));(focus (exact rfl));(focus ((apply op_b;(conv=>lhs;whnf);(first | done | exact rfl))));(focus ((apply op_b;(conv=>lhs;whnf);(first | done | exact rfl))));(focus (kernel_rfl));(focus (kernel_rfl));(focus (exact rfl));(focus (exact rfl));(focus (exact rfl));(focus (exact rfl));(focus (exact rfl));(focus (omega));(focus (first | exact Int.toNat_natCast _ | exact rfl)))) : p:=h
theorem zs114 {p q : Prop} (h : q) (f : Wq q→p:=by (intro hW;(refine aWmix3 [] zb101 (by exact killL_nil) ?_);exact hW.out)) : p:=f ⟨h⟩
theorem zs194 {p q : Prop} (h : q) (f : Wq q→p:=by (intro hW;((refine gar ?_;refine zs4 ?_;refine zs4 ?_;refine zs67 ?_;refine zs23 ?_;refine zs4 ?_;refine zs67 ?_;refine zs23 ?_;refine zs33 ?_;refine zs42 ?_;refine aL_nil ?_));exact hW.out)) : p:=f ⟨h⟩
theorem zs98 {p q : Prop} (h : q) (f : Wq q→p:=by (intro hW;((first | refine aN1 rfl rfl rfl zb45 ?_ | refine aN1o rfl rfl rfl zb45 ?_));exact hW.out)) : p:=f ⟨h⟩
theorem zs105 {p q : Prop} (h : q) (f : Wq q→p:=by (intro hW;(refine aN_nil zb101 ?_);exact hW.out)) : p:=f ⟨h⟩
theorem zs197 {p q : Prop} (h : q) (f : Wq q→p:=by (intro hW;((refine gar ?_;refine zs4 ?_;refine zs4 ?_;refine zs8 ?_;refine zs63 ?_;refine zs62 ?_;refine zs6 ?_;refine aL_nil ?_));exact hW.out)) : p:=f ⟨h⟩
theorem zs193 {p q : Prop} (h : q) (f : Wq q→p:=by (intro hW;((refine gar ?_;refine zs4 ?_;refine zs4 ?_;refine zs24 ?_;refine zs4 ?_;refine zs8 ?_;refine zs8 ?_;refine zs60 ?_;refine zs61 ?_;refine zs13 ?_;refine aL_nil ?_));exact hW.out)) : p:=f ⟨h⟩
theorem zb24 {p : Prop} (h : p:=by (apply d_call2;(focus (exact rfl));(focus ((apply op_b;(conv=>lhs;whnf);(first | done | exact rfl))));(focus ((apply op_b;(conv=>lhs;whnf);(first | done | exact rfl))));(focus (exact rfl));(focus (exact rfl));(focus ((first | exact fail)));(focus (exact rfl)))) : p:=h
theorem zs99 {p q : Prop} (h : q) (f : Wq q→p:=by (intro hW;((first | refine aN1 rfl rfl rfl zb4 ?_ | refine aNindex rfl rfl rfl rfl zb61 zb61 zb57 zb101 zb101 (by first | omega | (simp;omega)) (by first | (apply offs_nat;assumption) | exact rfl) ?_ | refine aN1o rfl rfl rfl zb4 ?_));exact hW.out)) : p:=f ⟨h⟩
theorem zs108 {p q : Prop} (h : q) (f : Wq q→p:=by (intro hW;((first | refine aH1' rfl rfl rfl zb102 zb2 zb102 zb102 ?_ | ((try refine aHead_nil ?_);refine aL1 rfl rfl rfl zb2 ?_)));exact hW.out)) : p:=f ⟨h⟩
theorem zs100 {p q : Prop} (h : q) (f : Wq q→p:=by (intro hW;((first | refine aN1 rfl rfl rfl zb1 ?_ | refine aN1o rfl rfl rfl zb1 ?_));exact hW.out)) : p:=f ⟨h⟩
theorem zs102 {p q : Prop} (h : q) (f : Wq q→p:=by (intro hW;((first | refine aN1 rfl rfl rfl zb38 ?_ | refine aN1o rfl rfl rfl zb38 ?_));exact hW.out)) : p:=f ⟨h⟩
theorem zs103 {p q : Prop} (h : q) (f : Wq q→p:=by (intro hW;((refine aNstore (i:=0) rfl rfl rfl zb61 zb61 zb57 zb102 zb63 zb102 zb59 zb102 zb101 zb48 ?_));exact hW.out)) : p:=f ⟨h⟩
theorem zs104 {p q : Prop} (h : q) (f : Wq q→p:=by (intro hW;((first | refine aN1 rfl rfl rfl zb43 ?_ | refine aN1o rfl rfl rfl zb43 ?_));exact hW.out)) : p:=f ⟨h⟩
theorem zs196 {p q : Prop} (h : q) (f : Wq q→p:=by (intro hW;((refine gar ?_;refine zs4 ?_;refine zs4 ?_;refine zs67 ?_;refine zs23 ?_;refine zs4 ?_;refine zs67 ?_;refine zs23 ?_;refine zs33 ?_;refine zs7 ?_;refine aL_nil ?_));exact hW.out)) : p:=f ⟨h⟩
end Go.Proofs.YtcgjmdpcplhanaaGreat
namespace Go.Proofs.YtcgjmdpcplhanaaGreat
open Go.RowKit
namespace DW
def atD : Option Nat→D
 | none=>zI (-1)
 | some t=>zI (t : Nat)
theorem rw_get {M : Mx.Mat} {i : Nat} (h : i < M.length) : M[i]? = some (Mx.rw M i):=by
 unfold Mx.rw;rw [List.getD_eq_getElem?_getD,List.getElem?_eq_getElem h];rfl
theorem at_get {M : Mx.Mat} {n i c : Nat} (hM : Mx.Rc n M) (h : i < M.length) (hc : c < n) : (Mx.rw M i)[c]? = some (Mx.at' M i c):=by
 unfold Mx.at'
 rw [List.getD_eq_getElem?_getD,List.getElem?_eq_getElem (by rw [hM.rw h];exact hc)];rfl
theorem hd_pow {z : Int} {e k : Nat} (h : z.natAbs≤2 ^ e) (he : e < 16 * k) : (hd z.natAbs).length≤k:=hd_len_le (by
 have h1 : (65536 : Nat) ^ k = 2 ^ (16 * k):=by rw [show (65536 : Nat) = 2 ^ 16 by rfl,← Nat.pow_mul]
 rw [h1]
 exact Nat.lt_of_le_of_lt h (Nat.pow_lt_pow_right (by omega) he))
theorem sgn_zero (z : Int) : sgn z = 0 ↔ z = 0:=by unfold sgn;split <;> (try split) <;> omega
theorem hd_bits {z : Int} {e : Nat} (h : z.natAbs≤2 ^ e) (he : e≤3000000000) : (hd z.natAbs).length≤199999999:=hd_pow h (by omega)
theorem hf_bits {z : Int} {e : Nat} (h : z.natAbs≤2 ^ e) (he : e≤3000000000) : Hf z:=Nat.le_trans (hd_bits h he) (by decide)
theorem take_row {N : Mx.Mat} {n i r c E : Nat} (hN : Mx.Rc n N) (hi : i < N.length) (hr : r < N.length) (hn : n≤1000) (hb : Mx.Bd (2 ^ E) N) (hE : 2 * E≤3000000000) : Fn Tryz.prog 149 [dZ (Mx.rw N i),dZ (Mx.rw N r),.nm (Mx.at' N i c / Mx.at' N r c)] (dZ (Mx.elimRow (Mx.rw N r) c (Mx.rw N i))):=by
 have hm : ∀ {i : Nat} {x : Int},x ∈ Mx.rw N i→x.natAbs≤2 ^ E:=fun {i x} hx=>by
  obtain ⟨j,hj,e⟩:=List.getElem_of_mem hx
  have:=hb i j
  unfold Mx.at' at this
  rw [List.getD_eq_getElem?_getD,List.getElem?_eq_getElem hj,e] at this
  exact this
 have hq : (Mx.at' N i c / Mx.at' N r c).natAbs≤2 ^ E:=Nat.le_trans (Mx.div_small _ _) (hb i c)
 refine take_d (Mx.rw N i) (Mx.rw N r) _ (by rw [hN.rw hi,hN.rw hr]) (by rw [hN.rw hi];omega) (fun x hx=>hf_bits (hm hx) (by omega)) (fun y hy=>⟨hf_bits (hm hy) (by omega),hf_bits (e:=E + E) ?_ (by omega)⟩) (hf_bits hq (by omega))
 rw [Int.natAbs_mul,Nat.pow_add]
 exact Nat.mul_le_mul hq (hm hy)
theorem swp_map (N : Mx.Mat) (r t : Nat) : ((N.map dZ).set r (dZ (Mx.rw N t))).set t (dZ (Mx.rw N r)) = (Mx.swp N r t).map dZ:=by
 unfold Mx.swp;rw [List.map_set,List.map_set]
set_option maxRecDepth 20000
set_option maxHeartbeats 2000000
theorem echelon_p (m : Mx.Mat) (n cN e p : Nat) (hR : Mx.Rc n m) (hc : cN ≤ n) (hn : n ≤ 1000) (hm : m.length ≤ 1000) (he : 6 ≤ e) (hp : m.length ≤ p ∨ cN ≤ p) (hf : 2 * (e * 11 ^ p) ≤ 3000000000) (hb : Mx.Bd (2 ^ e) m) :
    Fn Tryz.prog 78 [dW m, zI cN] (dW (Mx.red cN 0 (0, m)).2) := by
  obtain ⟨T, hT⟩ : ∃ T, T = Mx.red cN 0 (0, m) := ⟨_, rfl⟩
  rw [← hT]
  obtain ⟨L, hL⟩ : ∃ L, L = m.length := ⟨_, rfl⟩
  rw [← hL] at hp
  refine fn_of Tryz.func78 zb101 rfl rfl rfl fun X0 => ?_
  simp only [initL]
  (repeat (first | refine gk fun K hK => ?_ | refine zs2 ?_)); refine zs145 ?_; (repeat (first | refine gk fun K hK => ?_ | refine zs2 ?_)); (refine gar ?_; (refine aLempty (k := 19) (wd := 1) (T := Tryz.prog.elem 27) rfl rfl rfl rfl zb101 zb101 zb102 zb102 zb42 ?_); refine zs4 ?_; (refine aLappA rfl rfl rfl rfl zb61 zb61 zb57 zb102 zb33 zb101 zb101 (by (simp only [List.length_map, List.length_nil]; omega)) zb42 zb53 ?_); refine zs6 ?_; refine aL_nil ?_); (repeat (first | refine gk fun K hK => ?_ | refine zs2 ?_)); refine zs149 ?_; (repeat (first | refine gk fun K hK => ?_ | refine zs2 ?_)); refine zs149 ?_; (repeat (first | refine gk fun K hK => ?_ | refine zs2 ?_))
  (refine aW_sh (Sh_to (sl' := [(1, zI cN), (5, .own 19), (6, zI 0), (7, zI 0)]) (ow' := [(19, ⟨113, 1, m.map dZ⟩)]) zb19 zb37) ?_)
  refine aW_loop (fun k s => ∃ r c M, k = cN - c ∧ c ≤ cN ∧ Mx.Rc n M ∧ M.length = L ∧ (r ≤ L ∧ r ≤ c) ∧ Mx.red (cN - c) c (r, M) = T ∧ Mx.Bd (2 ^ (e * 11 ^ r)) M ∧ s = ⟨[(1, zI cN), (5, .own 19), (6, zI (r : Nat)), (7, zI (c : Nat))], [(19, ⟨113, 1, M.map dZ⟩)]⟩) (m := cN) ⟨0, 0, m, rfl, Nat.zero_le _, hR, hL.symm, ⟨Nat.zero_le _, Nat.zero_le _⟩, hT.symm, by rw [Nat.pow_zero, Nat.mul_one]; exact hb, rfl⟩ fun k s hs => ?_
  clear hT hb
  obtain ⟨r, c, M, rfl, hcN, hM, hML, hr, hT, hb, rfl⟩ := hs
  by_cases hgo : c < cN ∧ r < L
  · obtain ⟨hcc, hrr⟩ := hgo
    have hd1 : decide ((c : Int) < (cN : Int)) = true := decide_eq_true (by omega)
    have hcn : c < n := by omega
    (repeat (first | refine gk fun K hK => ?_ | refine zs2 ?_)); refine zs193 ?_; (repeat (first | refine gk fun K hK => ?_ | refine zs2 ?_))
    refine zs48 ?_
    (repeat (first | refine gk fun K hK => ?_ | refine zs2 ?_))
    obtain ⟨X, hX⟩ : ∃ X, X = 2 ^ (e * 11 ^ r) := ⟨_, rfl⟩
    obtain ⟨K0, hK0⟩ : ∃ K0, K0 = 6 * X ^ 5 := ⟨_, rfl⟩
    obtain ⟨E, hE⟩ : ∃ E, E = e * 11 ^ (r + 1) := ⟨_, rfl⟩
    obtain ⟨Mc, hMc⟩ : ∃ Mc, Mc = Mx.colF r c M := ⟨_, rfl⟩
    have hEf : 2 * E ≤ 3000000000 := Nat.le_trans (Nat.mul_le_mul_left 2 (by rw [hE]; exact Nat.mul_le_mul_left e (Nat.pow_le_pow_right (by omega) (by omega)))) hf
    have hX1 : 1 ≤ X := by rw [hX]; exact Nat.pow_pos (by omega)
    have hnb : K0 * (K0 + 1) ≤ 2 ^ E := by
      have h1 : 6 ≤ e * 11 ^ r := Nat.le_trans he (Nat.le_mul_of_pos_right _ (Nat.pow_pos (by omega)))
      have h2 := Mx.nb_pow h1
      rw [Mx.e11, ← hX, ← hE] at h2
      rw [hK0]; exact h2
    have hKE : K0 ≤ 2 ^ E := Nat.le_trans (Nat.le_mul_of_pos_right _ (by omega)) hnb
    rw [← hX] at hb
    have hJ : Mx.Jn K0 r c M := .inl ⟨X, hX1, hb, by rw [hK0]; exact Nat.le_refl _⟩
    have hcl := (Mx.colF_low (r := r) (c := c) hM).1.re
    have hMcR : Mx.Rc n Mc := by rw [hMc]; exact hcl.rc hM
    have hMcL : Mc.length = L := by rw [hMc, hcl.len]; exact hML
    have hMcB : Mx.Bd K0 Mc := by rw [hMc]; exact Mx.colF_bd hM hJ
    have hB0 : Mx.at' Mc r c = 0 → Mx.Bd (2 ^ (e * 11 ^ r)) Mc := fun h0 => by
      rw [hMc] at h0 ⊢
      rw [(Mx.colF_keep (r := r) (c := c) hM).resolve_right (fun hh => hh h0), ← hX]
      exact hb
    clear hcl hX hK0 hX1
    have TAIL : K ⟨[(1, zI cN), (5, .own 19), (6, zI (r : Nat)), (7, zI (c : Nat))], [(19, ⟨113, 1, Mc.map dZ⟩)]⟩ := by
      apply hK
      have hrM : r < Mc.length := by omega
      have hgr := rw_get hrM
      have hxr := at_get hMcR hrM hcn
      have SX := sign_d (Mx.at' Mc r c) (hf_bits (Nat.le_trans (hMcB r c) hKE) (by omega))
      have gx := sgn_zero (Mx.at' Mc r c)
      have gn := sgn_neg (Mx.at' Mc r c)
      have hT1 : Mx.red (cN - (c + 1)) (c + 1) (Mx.step r c M) = T := by
        rw [← hT, show cN - c = cN - (c + 1) + 1 by omega, Mx.red_go (by omega)]
      by_cases h0 : Mx.at' Mc r c = 0
      · have eS : Mx.step r c M = (r, Mc) := by
          unfold Mx.step; simp only []; rw [← hMc, if_pos h0]
        rw [eS] at hT1
        have hB2 := hB0 h0
        (repeat (first | refine gk fun K hK => ?_ | refine zs2 ?_)); refine zs194 ?_; (repeat (first | refine gk fun K hK => ?_ | refine zs2 ?_))
        refine zs48 ?_
        (repeat (first | refine gk fun K hK => ?_ | refine zs2 ?_)); refine zs151 ?_; (repeat (first | refine gk fun K hK => ?_ | refine zs2 ?_))
        simp only [nx, inB]
        exact ⟨cN - (c + 1), _, by omega, (Sh_to (sl' := [(1, zI cN), (5, .own 19), (6, zI (r : Nat)), (7, zI ((c + 1 : Nat) : Int))]) (ow' := [(19, ⟨113, 1, Mc.map dZ⟩)]) zb19 zb37), r, c + 1, Mc, rfl, by omega, hMcR, hMcL, ⟨hr.1, by omega⟩, hT1, hB2, rfl⟩
      · have eS : Mx.step r c M = (r + 1, Mx.above r c (Mx.sgnd r c Mc)) := by
          unfold Mx.step; simp only []; rw [← hMc, if_neg h0]
        rw [eS] at hT1
        unfold Mx.above at hT1
        have hSB := Mx.sgnd_bd (c := c) hMcB hrM
        have hSre := Mx.sgnd_re (c := c) hrM
        have hSR := hSre.rc hMcR
        have hSL : (Mx.sgnd r c Mc).length = L := by rw [hSre.len]; exact hMcL
        have hAB : ∀ k, k ≤ (Mx.sgnd r c Mc).length → Mx.Bd (2 ^ E) (Mx.elimK r c 0 (Mx.sgnd r c Mc) k) := fun k hk => (Mx.above_bd hSR (by omega) hSB hk).mono hnb
        have hpiv : Mx.at' (Mx.sgnd r c Mc) r c ≠ 0 := by
          unfold Mx.sgnd
          split
          · rw [Mx.at_set _ _ _ _ _ hrM, if_pos rfl, Mx.neg_at]
            show -(Mx.at' Mc r c) ≠ 0
            omega
          · exact h0
        clear hSre hSB
        (repeat (first | refine gk fun K hK => ?_ | refine zs2 ?_)); refine zs194 ?_; (repeat (first | refine gk fun K hK => ?_ | refine zs2 ?_))
        refine zs45 ?_
        (repeat refine zs2 ?_)
        refine gk fun K2 hK2 => ?_
        have TAIL2 : ∀ s, Sh X0 Tryz.f78.ntmps s ⟨[(1, zI cN), (5, .own 19), (6, zI (r : Nat)), (7, zI (c : Nat))], [(19, ⟨113, 1, (Mx.sgnd r c Mc).map dZ⟩)]⟩ → K2 s := by
          intro s hs
          apply hK2
          refine aW_sh hs ?_
          obtain ⟨S, hS⟩ : ∃ S, S = Mx.sgnd r c Mc := ⟨_, rfl⟩
          rw [← hS] at hT1 hSR hSL hAB hpiv
          rw [← hS]
          clear hS hK2 hgr hxr SX gx gn h0 eS
          (repeat (first | refine gk fun K hK => ?_ | refine zs2 ?_)); refine zs149 ?_; (repeat (first | refine gk fun K hK => ?_ | refine zs2 ?_))
          (refine aW_sh (Sh_to (sl' := [(1, zI cN), (5, .own 19), (6, zI (r : Nat)), (7, zI (c : Nat)), (15, zI 0)]) (ow' := [(19, ⟨113, 1, S.map dZ⟩)]) zb19 zb37) ?_)
          refine aW_loop (fun k s => ∃ j, j ≤ r ∧ k = r - j ∧ s = ⟨[(1, zI cN), (5, .own 19), (6, zI (r : Nat)), (7, zI (c : Nat)), (15, zI (j : Nat))], [(19, ⟨113, 1, (Mx.elimK r c 0 S j).map dZ⟩)]⟩) (m := r) ⟨0, Nat.zero_le _, rfl, rfl⟩ fun k s hs => ?_
          obtain ⟨j, hjr, rfl, rfl⟩ := hs
          have hLN : (Mx.elimK r c 0 S j).length = L := by rw [Mx.elimK_len]; exact hSL
          have hBN := hAB j (by omega)
          have hRN : Mx.Rc n (Mx.elimK r c 0 S j) := Mx.elimK_rc hSR (by omega) j (by omega)
          by_cases hj : j < r
          · have HNX : Mx.elimK r c 0 S (j + 1) = (Mx.elimK r c 0 S j).set j (Mx.elimRow (Mx.rw (Mx.elimK r c 0 S j) r) c (Mx.rw (Mx.elimK r c 0 S j) j)) := by
              have := Mx.elimK_next (r := r) (c := c) (s := 0) (k := j) (M := S) (by omega) (by omega)
              rw [Nat.zero_add] at this; exact this
            have hpn : Mx.at' (Mx.elimK r c 0 S j) r c ≠ 0 := by
              unfold Mx.at'
              rw [Mx.elimK_rw r c 0 S j (by omega) r, if_neg (by omega)]
              exact hpiv
            obtain ⟨A, hA⟩ : ∃ A, A = Mx.elimK r c 0 S j := ⟨_, rfl⟩
            rw [← hA] at HNX hpn hBN hRN hLN
            rw [← hA]
            clear hA hAB hT1
            have hgj := rw_get (M := A) (i := j) (by omega)
            have hgr := rw_get (M := A) (i := r) (by omega)
            have hxj := at_get hRN (show j < A.length by omega) hcn
            have hxr := at_get hRN (show r < A.length by omega) hcn
            have DM := divmod_d (Mx.at' A j c) (Mx.at' A r c) (hf_bits (hBN j c) (by omega)) (hf_bits (hBN r c) (by omega)) hpn
            have TK := take_row (c := c) hRN (show j < A.length by omega) (show r < A.length by omega) hn hBN hEf
            have hjj : (j : Int) = ((j : Nat) : Int) := rfl
            (repeat (first | refine gk fun K hK => ?_ | refine zs2 ?_)); refine zs171 ?_; (repeat (first | refine gk fun K hK => ?_ | refine zs2 ?_))
            refine zs48 ?_
            (repeat (first | refine gk fun K hK => ?_ | refine zs2 ?_)); ((refine aWmix3 [16, 17] zb101 zb20 ?_); refine zs98 ?_; refine zs98 ?_; refine zs99 ?_; refine zs100 ?_; refine zs98 ?_; refine zs99 ?_; refine zs100 ?_; refine zs98 ?_; refine zs98 ?_; refine zs99 ?_; refine zs100 ?_; refine zs98 ?_; refine zs99 ?_; refine zs100 ?_; refine zs101 ?_; refine zs98 ?_; refine zs102 ?_; refine zs102 ?_; refine zs102 ?_; (refine aNalloc (k := 16) (z := (.agg #[.bool false, .slice none 0 0])) (d := (.nm 0)) rfl rfl rfl rfl rfl zb101 zb102 zb102 zb59 zb102 zb102 ?_); (refine aNalloc (k := 17) (z := (.agg #[.bool false, .slice none 0 0])) (d := (.nm 0)) rfl rfl rfl rfl rfl zb101 zb102 zb102 zb59 zb102 zb102 ?_); refine zs103 ?_; refine zs103 ?_; refine zs104 ?_; refine zs105 ?_); (repeat (first | refine gk fun K hK => ?_ | refine zs2 ?_))
            (refine aW_sh (Sh_to (sl' := [(1, zI cN), (5, .own 19), (6, zI (r : Nat)), (7, zI (c : Nat)), (15, zI (j : Nat)), (16, .opt 16 0)]) (ow' := [(16, ⟨62, 2, [.nm (Mx.at' A j c / Mx.at' A r c)]⟩), (19, ⟨113, 1, A.map dZ⟩)]) zb19 zb37) ?_)
            (repeat (first | refine gk fun K hK => ?_ | refine zs2 ?_)); refine zs195 ?_; (repeat (first | refine gk fun K hK => ?_ | refine zs2 ?_)); refine zs151 ?_; (repeat (first | refine gk fun K hK => ?_ | refine zs2 ?_))
            simp only [nx, inB]
            exact ⟨r - (j + 1), _, by omega, (Sh_to (sl' := [(1, zI cN), (5, .own 19), (6, zI (r : Nat)), (7, zI (c : Nat)), (15, zI ((j + 1 : Nat) : Int))]) (ow' := [(19, ⟨113, 1, (A.map dZ).set j (dZ (Mx.elimRow (Mx.rw A r) c (Mx.rw A j)))⟩)]) zb19 zb37), j + 1, by omega, rfl, by rw [HNX, List.map_set]⟩
          · obtain rfl : j = r := by omega
            rw [hE] at hBN
            (repeat (first | refine gk fun K hK => ?_ | refine zs2 ?_)); refine zs171 ?_; (repeat (first | refine gk fun K hK => ?_ | refine zs2 ?_))
            refine zs45 ?_
            (repeat (first | refine gk fun K hK => ?_ | refine zs2 ?_)); refine zs151 ?_; (repeat (first | refine gk fun K hK => ?_ | refine zs2 ?_)); refine zs151 ?_; (repeat (first | refine gk fun K hK => ?_ | refine zs2 ?_))
            simp only [nx, inB]
            exact ⟨cN - (c + 1), _, by omega, (Sh_to (sl' := [(1, zI cN), (5, .own 19), (6, zI ((j + 1 : Nat) : Int)), (7, zI ((c + 1 : Nat) : Int))]) (ow' := [(19, ⟨113, 1, (Mx.elimK j c 0 S j).map dZ⟩)]) zb19 zb37), j + 1, c + 1, _, rfl, by omega, hRN, hLN, ⟨by omega, by omega⟩, hT1, hBN, rfl⟩
        clear hK2
        by_cases hneg : Mx.at' Mc r c < 0
        · have hgs := gn.2 hneg
          have eG : Mx.sgnd r c Mc = Mc.set r (Mx.neg (Mx.rw Mc r)) := by unfold Mx.sgnd; rw [if_pos hneg]
          rw [eG, List.map_set] at TAIL2
          have hrl : (Mx.rw Mc r).length = n := hMcR.rw hrM
          have hin : ∀ x ∈ Mx.rw Mc r, x.natAbs ≤ 2 ^ E := fun x hx => by
            obtain ⟨j, hj, e⟩ := List.getElem_of_mem hx
            have := hMcB r j
            unfold Mx.at' at this
            rw [List.getD_eq_getElem?_getD, List.getElem?_eq_getElem hj, e] at this
            exact Nat.le_trans this hKE
          have hf1 : Hf 1 := by unfold Hf; rw [show (1 : Int).natAbs = 1 from rfl, hd_one]; decide
          have hf0 : Hf 0 := by unfold Hf; rw [show (0 : Int).natAbs = 0 from rfl, (hd_nil 0).2 rfl]; decide
          have TK := take_d (List.replicate (Mx.rw Mc r).length 0) (Mx.rw Mc r) 1 (by simp) (by rw [List.length_replicate]; omega) (fun x hx => by rw [List.eq_of_mem_replicate hx]; exact hf0) (fun y hy => ⟨hf_bits (hin y hy) (by omega), by rw [Int.one_mul]; exact hf_bits (hin y hy) (by omega)⟩) hf1
          have eN : Mx.axpy (-1) (List.replicate (Mx.rw Mc r).length 0) (Mx.rw Mc r) = Mx.neg (Mx.rw Mc r) := by
            refine Mx.row_ext (by rw [Mx.axpy_len _ _ _ (by simp), List.length_replicate, Mx.neg_len]) fun j => ?_
            rw [Mx.axpy_at _ _ _ _ (by simp), Mx.neg_at, List.getD_eq_getElem?_getD, List.getElem?_replicate]
            split <;> simp <;> omega
          rw [eN] at TK
          unfold dZ at TK
          rw [List.map_replicate] at TK
          have OF := of_d 1 (by omega)
          have hrr' : (r : Int) = ((r : Nat) : Int) := rfl
          (repeat (first | refine gk fun K hK => ?_ | refine zs2 ?_)); refine zs196 ?_; (repeat (first | refine gk fun K hK => ?_ | refine zs2 ?_))
          refine zs48 ?_
          (repeat (first | refine gk fun K hK => ?_ | refine zs2 ?_)); (((first | (apply aW_draw 15; (focus kernel_rfl); (focus (decide +kernel))) | (apply aW_draw 14; (focus kernel_rfl); (focus (decide +kernel))) | (apply aW_draw 13; (focus kernel_rfl); (focus (decide +kernel))) | (apply aW_draw 12; (focus kernel_rfl); (focus (decide +kernel))) | (apply aW_draw 11; (focus kernel_rfl); (focus (decide +kernel))) | (apply aW_draw 10; (focus kernel_rfl); (focus (decide +kernel))) | (apply aW_draw 9; (focus kernel_rfl); (focus (decide +kernel))) | (apply aW_draw 8; (focus kernel_rfl); (focus (decide +kernel)))); simp only [List.take_succ_cons, List.take_zero, List.drop_succ_cons, List.drop_zero]); refine zs25 ?_; refine zs25 ?_; refine zs25 ?_; refine zs25 ?_; refine zs28 ?_; refine zs27 ?_; refine zs108 ?_; (first | refine aH1' rfl rfl rfl zb102 zb10 zb102 zb102 ?_ | ((try refine aHead_nil ?_); refine aL1 rfl rfl rfl zb10 ?_)); refine zs25 ?_; refine zs25 ?_; refine zs28 ?_; refine zs27 ?_; (first | refine aH1' rfl rfl rfl zb102 zb41 zb102 zb102 ?_ | ((try refine aHead_nil ?_); refine aL1 rfl rfl rfl zb41 ?_)); refine zs106 ?_; refine zs28 ?_; ((try refine aHead_nil ?_); (refine aLstore (i := r) rfl rfl rfl zb61 zb61 zb57 zb102 zb63 zb102 zb59 zb102 zb101 zb48 ?_)); refine zs31 ?_); (repeat (first | refine gk fun K hK => ?_ | refine zs2 ?_))
          exact (Sh_to (sl' := [(1, zI cN), (5, .own 19), (6, zI (r : Nat)), (7, zI (c : Nat))]) (ow' := [(19, ⟨113, 1, (Mc.map dZ).set r (dZ (Mx.neg (Mx.rw Mc r)))⟩)]) zb19 zb37)
        · have hgs : ¬ sgn (Mx.at' Mc r c) < 0 := fun h => hneg (gn.1 h)
          have eG : Mx.sgnd r c Mc = Mc := by unfold Mx.sgnd; rw [if_neg hneg]
          rw [eG] at TAIL2
          (repeat (first | refine gk fun K hK => ?_ | refine zs2 ?_)); refine zs196 ?_; (repeat (first | refine gk fun K hK => ?_ | refine zs2 ?_))
          refine zs45 ?_
          (repeat (first | refine gk fun K hK => ?_ | refine zs2 ?_))
          exact (Sh_to (sl' := [(1, zI cN), (5, .own 19), (6, zI (r : Nat)), (7, zI (c : Nat))]) (ow' := [(19, ⟨113, 1, Mc.map dZ⟩)]) zb19 zb37)
    clear hK
    have hred : 0 < cN - c := by omega
    (refine aW_sh (Sh_to (sl' := [(1, zI cN), (5, .own 19), (6, zI (r : Nat)), (7, zI (c : Nat))]) (ow' := [(19, ⟨113, 1, M.map dZ⟩)]) zb19 zb37) ?_)
    refine aW_loop (fun k s => ∃ N, k = Mx.meas r c N ∧ Mx.Rc n N ∧ N.length = L ∧ Mx.Jn K0 r c N ∧ Mx.colF r c N = Mc ∧ s = ⟨[(1, zI cN), (5, .own 19), (6, zI (r : Nat)), (7, zI (c : Nat))], [(19, ⟨113, 1, N.map dZ⟩)]⟩) (m := Mx.meas r c M) ⟨M, rfl, hM, hML, hJ, hMc.symm, rfl⟩ fun k s hs => ?_
    clear hJ hb hT hMc hML hM
    obtain ⟨N, rfl, hN, hNL, hJ, hNc, rfl⟩ := hs
    have hNB : ∀ i, (Mx.at' N i c).natAbs ≤ 2 ^ E := fun i => Nat.le_trans (Mx.jn_bd hJ i c) hKE
    (repeat (first | refine gk fun K hK => ?_ | refine zs2 ?_)); refine zs185 ?_; (repeat (first | refine gk fun K hK => ?_ | refine zs2 ?_)); refine zs174 ?_; (repeat (first | refine gk fun K hK => ?_ | refine zs2 ?_))
    (refine aW_sh (Sh_to (sl' := [(1, zI cN), (5, .own 19), (6, zI (r : Nat)), (7, zI (c : Nat)), (8, zI (-1)), (9, .sc (.bool false)), (10, zI (r : Nat))]) (ow' := [(19, ⟨113, 1, N.map dZ⟩)]) zb19 zb37) ?_)
    refine aW_loop (fun k s => ∃ i, r ≤ i ∧ i ≤ L ∧ k = L - i ∧ s = ⟨[(1, zI cN), (5, .own 19), (6, zI (r : Nat)), (7, zI (c : Nat)), (8, atD (Mx.scan c r N (i - r)).1), (9, .sc (.bool (decide (2 ≤ (Mx.scan c r N (i - r)).2)))), (10, zI (i : Nat))], [(19, ⟨113, 1, N.map dZ⟩)]⟩) (m := L - r) ⟨r, Nat.le_refl _, by omega, rfl, by rw [Nat.sub_self]; rfl⟩ fun k s hs => ?_
    obtain ⟨i, hri, hiL, rfl, rfl⟩ := hs
    by_cases hi : i < L
    · have hgi := rw_get (M := N) (i := i) (by omega)
      have hxi := at_get hN (show i < N.length by omega) hcn
      have SX := sign_d (Mx.at' N i c) (hf_bits (hNB i) (by omega))
      have gx := sgn_zero (Mx.at' N i c)
      by_cases h0 : Mx.at' N i c = 0
      · have HZ := Mx.scan_z hri h0
        rw [← HZ]
        obtain ⟨d8, h8⟩ : ∃ d, d = atD (Mx.scan c r N (i + 1 - r)).1 := ⟨_, rfl⟩
        rw [← h8]
        (repeat (first | refine gk fun K hK => ?_ | refine zs2 ?_)); refine zs165 ?_; (repeat (first | refine gk fun K hK => ?_ | refine zs2 ?_))
        refine zs48 ?_
        (repeat (first | refine gk fun K hK => ?_ | refine zs2 ?_)); refine zs194 ?_; (repeat (first | refine gk fun K hK => ?_ | refine zs2 ?_))
        refine zs48 ?_
        (repeat (first | refine gk fun K hK => ?_ | refine zs2 ?_)); refine zs151 ?_; (repeat (first | refine gk fun K hK => ?_ | refine zs2 ?_))
        simp only [nx, inB]
        exact ⟨L - (i + 1), _, by omega, (Sh_to (sl' := [(1, zI cN), (5, .own 19), (6, zI (r : Nat)), (7, zI (c : Nat)), (8, d8), (9, .sc (.bool (decide (2 ≤ (Mx.scan c r N (i + 1 - r)).2)))), (10, zI ((i + 1 : Nat) : Int))]) (ow' := [(19, ⟨113, 1, N.map dZ⟩)]) zb19 zb37), i + 1, by omega, by omega, rfl, by rw [h8]⟩
      · cases hp : (Mx.scan c r N (i - r)).1 with
        | none =>
          have h2 := ((Mx.scan_is c r N (i - r)).no hp).1
          have HS := Mx.scan_n hri h0 hp
          rw [h2] at HS
          rw [show atD none = zI (-1) from rfl, h2, show decide (2 ≤ 0) = false from rfl]
          (repeat (first | refine gk fun K hK => ?_ | refine zs2 ?_)); refine zs165 ?_; (repeat (first | refine gk fun K hK => ?_ | refine zs2 ?_))
          refine zs48 ?_
          (repeat (first | refine gk fun K hK => ?_ | refine zs2 ?_)); refine zs194 ?_; (repeat (first | refine gk fun K hK => ?_ | refine zs2 ?_))
          refine zs45 ?_
          (repeat (first | refine gk fun K hK => ?_ | refine zs2 ?_)); refine zs197 ?_; (repeat (first | refine gk fun K hK => ?_ | refine zs2 ?_)); (refine zs109 ?_; refine zs25 ?_; refine zs82 ?_; refine zs25 ?_; refine zs110 ?_; refine zs110 ?_; refine zs111 ?_; refine zs83 ?_; refine zs110 ?_; refine zs111 ?_; refine zs83 ?_; refine zs112 ?_; refine zs110 ?_; refine zs110 ?_; refine zs111 ?_; refine zs83 ?_; refine zs110 ?_; refine zs111 ?_; refine zs83 ?_; refine zs112 ?_; (first | (first | (refine aHs rfl rfl rfl rfl rfl ?_ ?_; (focus (apply look_b; (conv => lhs; whnf); (first | done | exact rfl | (apply sc_bool; (first | (apply decide_eq_true; omega) | (apply decide_eq_false; omega) | assumption | (simp; done))))))) | refine aHw' rfl rfl rfl rfl rfl zb31 zb102 zb24 zb102 zb102 ?_) | ((try refine aHead_nil ?_); (first | (refine aLs rfl rfl rfl rfl ?_ ?_; (focus (apply look_b; (conv => lhs; whnf); (first | done | exact rfl | (apply sc_bool; (first | (apply decide_eq_true; omega) | (apply decide_eq_false; omega) | assumption | (simp; done))))))) | refine aLw rfl rfl rfl rfl zb31 zb24 ?_))); refine zs86 ?_; refine zs87 ?_; refine zs31 ?_); (repeat (first | refine gk fun K hK => ?_ | refine zs2 ?_))
          refine zs48 ?_
          (repeat (first | refine gk fun K hK => ?_ | refine zs2 ?_)); refine zs174 ?_; (repeat (first | refine gk fun K hK => ?_ | refine zs2 ?_)); refine zs151 ?_; (repeat (first | refine gk fun K hK => ?_ | refine zs2 ?_))
          simp only [nx, inB]
          exact ⟨L - (i + 1), _, by omega, (Sh_to (sl' := [(1, zI cN), (5, .own 19), (6, zI (r : Nat)), (7, zI (c : Nat)), (8, zI (i : Nat)), (9, .sc (.bool false)), (10, zI ((i + 1 : Nat) : Int))]) (ow' := [(19, ⟨113, 1, N.map dZ⟩)]) zb19 zb37), i + 1, by omega, by omega, rfl, by rw [HS]; rfl⟩
        | some t =>
          have HT := (Mx.scan_is c r N (i - r)).yes t hp
          have htL : t < L := by have := HT.2.1; omega
          have hq1 : 1 ≤ (Mx.scan c r N (i - r)).2 := HT.2.2.2.2.1
          clear HT
          have HLT := Mx.scan_lt hri h0 hp
          have HGE := Mx.scan_ge hri h0 hp
          obtain ⟨q, hq⟩ : ∃ q, q = (Mx.scan c r N (i - r)).2 := ⟨_, rfl⟩
          rw [← hq] at HLT HGE hq1
          rw [← hq, show atD (some t) = zI (t : Nat) from rfl]
          clear hq hp
          have hgt := rw_get (M := N) (i := t) (by omega)
          have hxt := at_get hN (show t < N.length by omega) hcn
          have S1 := size_d (Mx.at' N i c) (hf_bits (hNB i) (by omega))
          have S2 := size_d (Mx.at' N t c) (hf_bits (hNB t) (by omega))
          have CM := cmp_d ((Mx.at' N i c).natAbs : Int) ((Mx.at' N t c).natAbs : Int) (hd_bits (by rw [Int.natAbs_natCast]; exact hNB i) (by omega)) (hd_bits (by rw [Int.natAbs_natCast]; exact hNB t) (by omega))
          have gs := sgn_neg (((Mx.at' N i c).natAbs : Int) - ((Mx.at' N t c).natAbs : Int))
          have hii : (i : Int) = ((i : Nat) : Int) := rfl
          by_cases hlt : (Mx.at' N i c).natAbs < (Mx.at' N t c).natAbs
          · have HS := HLT hlt
            clear HLT HGE
            have hg := gs.2 (by omega)
            by_cases h2q : 2 ≤ q
            all_goals
              first
              | rw [show decide (2 ≤ q) = true from decide_eq_true h2q]
              | rw [show decide (2 ≤ q) = false from decide_eq_false h2q]
              (repeat (first | refine gk fun K hK => ?_ | refine zs2 ?_)); refine zs165 ?_; (repeat (first | refine gk fun K hK => ?_ | refine zs2 ?_))
              refine zs48 ?_
              (repeat (first | refine gk fun K hK => ?_ | refine zs2 ?_)); refine zs194 ?_; (repeat (first | refine gk fun K hK => ?_ | refine zs2 ?_))
              refine zs45 ?_
              (repeat (first | refine gk fun K hK => ?_ | refine zs2 ?_)); refine zs197 ?_; (repeat (first | refine gk fun K hK => ?_ | refine zs2 ?_)); refine zs198 ?_; (repeat (first | refine gk fun K hK => ?_ | refine zs2 ?_))
              refine zs48 ?_
              (repeat (first | refine gk fun K hK => ?_ | refine zs2 ?_)); refine zs174 ?_; (repeat (first | refine gk fun K hK => ?_ | refine zs2 ?_)); refine zs151 ?_; (repeat (first | refine gk fun K hK => ?_ | refine zs2 ?_))
              simp only [nx, inB]
              exact ⟨L - (i + 1), _, by omega, (Sh_to (sl' := [(1, zI cN), (5, .own 19), (6, zI (r : Nat)), (7, zI (c : Nat)), (8, zI (i : Nat)), (9, .sc (.bool true)), (10, zI ((i + 1 : Nat) : Int))]) (ow' := [(19, ⟨113, 1, N.map dZ⟩)]) zb19 zb37), i + 1, by omega, by omega, rfl, by rw [HS, show decide (2 ≤ q + 1) = true from decide_eq_true (by omega)]; rfl⟩
          · have HS := HGE hlt
            clear HLT HGE
            have hg : ¬ sgn (((Mx.at' N i c).natAbs : Int) - ((Mx.at' N t c).natAbs : Int)) < 0 := fun h => hlt (by have := gs.1 h; omega)
            by_cases h2q : 2 ≤ q
            all_goals
              first
              | rw [show decide (2 ≤ q) = true from decide_eq_true h2q]
              | rw [show decide (2 ≤ q) = false from decide_eq_false h2q]
              (repeat (first | refine gk fun K hK => ?_ | refine zs2 ?_)); refine zs165 ?_; (repeat (first | refine gk fun K hK => ?_ | refine zs2 ?_))
              refine zs48 ?_
              (repeat (first | refine gk fun K hK => ?_ | refine zs2 ?_)); refine zs194 ?_; (repeat (first | refine gk fun K hK => ?_ | refine zs2 ?_))
              refine zs45 ?_
              (repeat (first | refine gk fun K hK => ?_ | refine zs2 ?_)); refine zs197 ?_; (repeat (first | refine gk fun K hK => ?_ | refine zs2 ?_)); refine zs198 ?_; (repeat (first | refine gk fun K hK => ?_ | refine zs2 ?_))
              refine zs45 ?_
              (repeat (first | refine gk fun K hK => ?_ | refine zs2 ?_)); refine zs151 ?_; (repeat (first | refine gk fun K hK => ?_ | refine zs2 ?_))
              simp only [nx, inB]
              exact ⟨L - (i + 1), _, by omega, (Sh_to (sl' := [(1, zI cN), (5, .own 19), (6, zI (r : Nat)), (7, zI (c : Nat)), (8, zI (t : Nat)), (9, .sc (.bool true)), (10, zI ((i + 1 : Nat) : Int))]) (ow' := [(19, ⟨113, 1, N.map dZ⟩)]) zb19 zb37), i + 1, by omega, by omega, rfl, by rw [HS, show decide (2 ≤ q + 1) = true from decide_eq_true (by omega)]; rfl⟩
    · obtain rfl : i = L := by omega
      have hpk : Mx.pick r c N = Mx.scan c r N (i - r) := by unfold Mx.pick; rw [hNL]
      cases hp : (Mx.scan c r N (i - r)).1 with
      | none =>
        have eN : N = Mc := by rw [← hNc, Mx.colF_none (by rw [hpk]; exact hp)]
        rw [← eN] at TAIL
        rw [show atD none = zI (-1) from rfl]
        (repeat (first | refine gk fun K hK => ?_ | refine zs2 ?_)); refine zs165 ?_; (repeat (first | refine gk fun K hK => ?_ | refine zs2 ?_))
        refine zs45 ?_
        (repeat (first | refine gk fun K hK => ?_ | refine zs2 ?_)); refine zs157 ?_; (repeat (first | refine gk fun K hK => ?_ | refine zs2 ?_))
        refine zs48 ?_
        (refine aW_sh (Sh_to (sl' := [(1, zI cN), (5, .own 19), (6, zI (r : Nat)), (7, zI (c : Nat))]) (ow' := [(19, ⟨113, 1, N.map dZ⟩)]) zb19 zb37) ?_)
        (repeat (first | refine gk fun K hK => ?_ | refine zs2 ?_))
        all_goals ((simp only [nx, inB, ite_true, ite_false, ↓reduceIte, Nat.reduceEqDiff, reduceCtorEq]); apply_assumption -exfalso)
      | some t =>
        have HT := (Mx.scan_is c r N (i - r)).yes t hp
        have htL : t < i := by have := HT.2.1; omega
        have htz := HT.2.2.1
        have hq1 : 1 ≤ (Mx.scan c r N (i - r)).2 := HT.2.2.2.2.1
        clear HT
        have hp' : (Mx.pick r c N).1 = some t := by rw [hpk]; exact hp
        have ONE := Mx.colF_one (r := r) (c := c) (M := N) hp'
        have STP := Mx.colF_step hN hp'
        have MEA := Mx.round_meas hN hp'
        have JST := Mx.jn_step hN hJ hp'
        rw [hpk] at ONE STP MEA JST
        obtain ⟨q, hq⟩ : ∃ q, q = (Mx.scan c r N (i - r)).2 := ⟨_, rfl⟩
        rw [← hq] at hq1 ONE STP MEA JST
        rw [← hq, show atD (some t) = zI (t : Nat) from rfl]
        clear hq hp hp' hpk
        have hgr := rw_get (M := N) (i := r) (by omega)
        have hgt := rw_get (M := N) (i := t) (by omega)
        have hsm := swp_map N r t
        have hrr' : (r : Int) = ((r : Nat) : Int) := rfl
        have htt' : (t : Int) = ((t : Nat) : Int) := rfl
        (repeat (first | refine gk fun K hK => ?_ | refine zs2 ?_)); refine zs165 ?_; (repeat (first | refine gk fun K hK => ?_ | refine zs2 ?_))
        refine zs45 ?_
        (repeat (first | refine gk fun K hK => ?_ | refine zs2 ?_)); refine zs157 ?_; (repeat (first | refine gk fun K hK => ?_ | refine zs2 ?_))
        refine zs45 ?_
        (repeat (first | refine gk fun K hK => ?_ | refine zs2 ?_)); (refine zs114 ?_; refine zs98 ?_; refine zs98 ?_; refine zs98 ?_; refine zs98 ?_; refine zs98 ?_; refine zs98 ?_; refine zs99 ?_; refine zs100 ?_; refine zs98 ?_; refine zs98 ?_; refine zs99 ?_; refine zs100 ?_; refine zs99 ?_; (refine aNstore (i := r) rfl rfl rfl zb61 zb61 zb57 zb102 zb63 zb102 zb59 zb102 zb101 zb48 ?_); refine zs99 ?_; (refine aNstore (i := t) rfl rfl rfl zb61 zb61 zb57 zb102 zb63 zb102 zb59 zb102 zb101 zb48 ?_); refine zs105 ?_); (repeat (first | refine gk fun K hK => ?_ | refine zs2 ?_))
        (refine aW_sh (Sh_to (sl' := [(1, zI cN), (5, .own 19), (6, zI (r : Nat)), (7, zI (c : Nat)), (9, .sc (.bool (decide (2 ≤ q))))]) (ow' := [(19, ⟨113, 1, ((N.map dZ).set r (dZ (Mx.rw N t))).set t (dZ (Mx.rw N r))⟩)]) zb19 zb37) ?_)
        rw [hsm]
        by_cases hq2 : q = 1
        · have eN : Mx.swp N r t = Mc := by rw [← hNc, ONE hq2]
          rw [← eN] at TAIL
          (repeat (first | refine gk fun K hK => ?_ | refine zs2 ?_)); refine zs199 ?_; (repeat (first | refine gk fun K hK => ?_ | refine zs2 ?_))
          refine zs48 ?_
          (refine aW_sh (Sh_to (sl' := [(1, zI cN), (5, .own 19), (6, zI (r : Nat)), (7, zI (c : Nat))]) (ow' := [(19, ⟨113, 1, (Mx.swp N r t).map dZ⟩)]) zb19 zb37) ?_)
          (repeat (first | refine gk fun K hK => ?_ | refine zs2 ?_))
          all_goals ((simp only [nx, inB, ite_true, ite_false, ↓reduceIte, Nat.reduceEqDiff, reduceCtorEq]); apply_assumption -exfalso)
        · have HE := (STP hq2).symm.trans hNc
          obtain ⟨hrN, htN, hrt, hmeas⟩ := MEA hq2
          obtain ⟨hJB, hJ2⟩ := JST hq2
          clear STP MEA JST ONE hsm hgr hgt
          have hSR := Mx.swp_rc hN hrN htN
          have hSL : (Mx.swp N r t).length = i := by rw [Mx.swp_len]; exact hNL
          have hpiv : Mx.at' (Mx.swp N r t) r c ≠ 0 := by
            rw [Mx.swp_at hrN htN]
            split
            · rename_i e; rw [e]; exact htz
            · rw [if_pos rfl]; exact htz
          unfold Mx.elim at HE hmeas hJ2
          rw [hNL] at hJB
          rw [hSL] at HE hmeas hJ2
          obtain ⟨S, hS⟩ : ∃ S, S = Mx.swp N r t := ⟨_, rfl⟩
          rw [← hS] at HE hmeas hJ2 hSR hSL hpiv hJB
          rw [← hS]
          clear hS TAIL
          (repeat (first | refine gk fun K hK => ?_ | refine zs2 ?_)); refine zs199 ?_; (repeat (first | refine gk fun K hK => ?_ | refine zs2 ?_))
          refine zs45 ?_
          (repeat (first | refine gk fun K hK => ?_ | refine zs2 ?_)); refine zs151 ?_; (repeat (first | refine gk fun K hK => ?_ | refine zs2 ?_))
          (refine aW_sh (Sh_to (sl' := [(1, zI cN), (5, .own 19), (6, zI (r : Nat)), (7, zI (c : Nat)), (11, zI ((r + 1 : Nat) : Int))]) (ow' := [(19, ⟨113, 1, S.map dZ⟩)]) zb19 zb37) ?_)
          refine aW_loop (fun k s => ∃ j, r + 1 ≤ j ∧ j ≤ i ∧ k = i - j ∧ s = ⟨[(1, zI cN), (5, .own 19), (6, zI (r : Nat)), (7, zI (c : Nat)), (11, zI (j : Nat))], [(19, ⟨113, 1, (Mx.elimK r c (r + 1) S (j - (r + 1))).map dZ⟩)]⟩) (m := i - (r + 1)) ⟨r + 1, Nat.le_refl _, by omega, rfl, by rw [Nat.sub_self]; rfl⟩ fun k s hs => ?_
          obtain ⟨j, hrj, hji, rfl, rfl⟩ := hs
          by_cases hj : j < i
          · have HNX : Mx.elimK r c (r + 1) S (j + 1 - (r + 1)) = (Mx.elimK r c (r + 1) S (j - (r + 1))).set j (Mx.elimRow (Mx.rw (Mx.elimK r c (r + 1) S (j - (r + 1))) r) c (Mx.rw (Mx.elimK r c (r + 1) S (j - (r + 1))) j)) := by
              rw [show j + 1 - (r + 1) = (j - (r + 1)) + 1 by omega, Mx.elimK_next (by omega) (by rw [hSL]; omega), show r + 1 + (j - (r + 1)) = j by omega]
            have hpn : Mx.at' (Mx.elimK r c (r + 1) S (j - (r + 1))) r c ≠ 0 := by
              unfold Mx.at'
              rw [Mx.elimK_rw r c (r + 1) S (j - (r + 1)) (by rw [hSL]; omega) r, if_neg (by omega)]
              exact hpiv
            have hBN := (hJB (j - (r + 1)) (by omega)).mono hKE
            have hRN : Mx.Rc n (Mx.elimK r c (r + 1) S (j - (r + 1))) := Mx.elimK_rc hSR (by omega) _ (by omega)
            have hLN : (Mx.elimK r c (r + 1) S (j - (r + 1))).length = i := by rw [Mx.elimK_len]; exact hSL
            obtain ⟨A, hA⟩ : ∃ A, A = Mx.elimK r c (r + 1) S (j - (r + 1)) := ⟨_, rfl⟩
            rw [← hA] at HNX hpn hBN hRN hLN
            rw [← hA]
            clear hA hJB hJ2 hmeas HE
            have hgj := rw_get (M := A) (i := j) (by omega)
            have hgr := rw_get (M := A) (i := r) (by omega)
            have hxj := at_get hRN (show j < A.length by omega) hcn
            have hxr := at_get hRN (show r < A.length by omega) hcn
            have DM := divmod_d (Mx.at' A j c) (Mx.at' A r c) (hf_bits (hBN j c) (by omega)) (hf_bits (hBN r c) (by omega)) hpn
            have TK := take_row (c := c) hRN (show j < A.length by omega) (show r < A.length by omega) hn hBN hEf
            have hjj : (j : Int) = ((j : Nat) : Int) := rfl
            (repeat (first | refine gk fun K hK => ?_ | refine zs2 ?_)); refine zs165 ?_; (repeat (first | refine gk fun K hK => ?_ | refine zs2 ?_))
            refine zs48 ?_
            (repeat (first | refine gk fun K hK => ?_ | refine zs2 ?_)); ((refine aWmix3 [12, 13] zb101 zb20 ?_); refine zs98 ?_; refine zs98 ?_; refine zs99 ?_; refine zs100 ?_; refine zs98 ?_; refine zs99 ?_; refine zs100 ?_; refine zs98 ?_; refine zs98 ?_; refine zs99 ?_; refine zs100 ?_; refine zs98 ?_; refine zs99 ?_; refine zs100 ?_; refine zs101 ?_; refine zs98 ?_; refine zs102 ?_; refine zs102 ?_; refine zs102 ?_; (refine aNalloc (k := 12) (z := (.agg #[.bool false, .slice none 0 0])) (d := (.nm 0)) rfl rfl rfl rfl rfl zb101 zb102 zb102 zb59 zb102 zb102 ?_); (refine aNalloc (k := 13) (z := (.agg #[.bool false, .slice none 0 0])) (d := (.nm 0)) rfl rfl rfl rfl rfl zb101 zb102 zb102 zb59 zb102 zb102 ?_); refine zs103 ?_; refine zs103 ?_; refine zs104 ?_; refine zs105 ?_); (repeat (first | refine gk fun K hK => ?_ | refine zs2 ?_))
            (refine aW_sh (Sh_to (sl' := [(1, zI cN), (5, .own 19), (6, zI (r : Nat)), (7, zI (c : Nat)), (11, zI (j : Nat)), (12, .opt 12 0)]) (ow' := [(12, ⟨62, 2, [.nm (Mx.at' A j c / Mx.at' A r c)]⟩), (19, ⟨113, 1, A.map dZ⟩)]) zb19 zb37) ?_)
            (repeat (first | refine gk fun K hK => ?_ | refine zs2 ?_)); refine zs195 ?_; (repeat (first | refine gk fun K hK => ?_ | refine zs2 ?_)); refine zs151 ?_; (repeat (first | refine gk fun K hK => ?_ | refine zs2 ?_))
            simp only [nx, inB]
            exact ⟨i - (j + 1), _, by omega, (Sh_to (sl' := [(1, zI cN), (5, .own 19), (6, zI (r : Nat)), (7, zI (c : Nat)), (11, zI ((j + 1 : Nat) : Int))]) (ow' := [(19, ⟨113, 1, (A.map dZ).set j (dZ (Mx.elimRow (Mx.rw A r) c (Mx.rw A j)))⟩)]) zb19 zb37), j + 1, by omega, by omega, rfl, by rw [HNX, List.map_set]⟩
          · obtain rfl : j = i := by omega
            have hLN : (Mx.elimK r c (r + 1) S (j - (r + 1))).length = j := by rw [Mx.elimK_len]; exact hSL
            (repeat (first | refine gk fun K hK => ?_ | refine zs2 ?_)); refine zs165 ?_; (repeat (first | refine gk fun K hK => ?_ | refine zs2 ?_))
            refine zs45 ?_
            (repeat (first | refine gk fun K hK => ?_ | refine zs2 ?_))
            simp only [nx, inB]
            exact ⟨_, _, hmeas, (Sh_to (sl' := [(1, zI cN), (5, .own 19), (6, zI (r : Nat)), (7, zI (c : Nat))]) (ow' := [(19, ⟨113, 1, (Mx.elimK r c (r + 1) S (j - (r + 1))).map dZ⟩)]) zb19 zb37), _, rfl, Mx.elimK_rc hSR (by omega) (j - (r + 1)) (by omega), by rw [Mx.elimK_len]; exact hSL, hJ2, HE, rfl⟩
  · have eT : T.2 = M := by
      by_cases h1 : c < cN
      · rw [Mx.red_stop (by omega)] at hT; rw [← hT]
      · rw [show cN - c = 0 by omega] at hT; rw [← hT]; rfl
    by_cases h1 : c < cN
    · have hd1 : decide ((c : Int) < (cN : Int)) = true := decide_eq_true (by omega)
      (repeat (first | refine gk fun K hK => ?_ | refine zs2 ?_)); refine zs193 ?_; (repeat (first | refine gk fun K hK => ?_ | refine zs2 ?_))
      refine zs45 ?_
      (repeat (first | refine gk fun K hK => ?_ | refine zs2 ?_))
      refine aW_sh (Sh_shut' (k := 19) zb57 zb46 zb50) ?_
      refine zs174 ?_
      (repeat (first | refine gk fun K hK => ?_ | refine zs2 ?_))
      rw [eT]
      exact ⟨_, Sh.refl, .one (.tmp 4) _ rfl (.tmp 4 rfl)⟩
    · have hd1 : decide ((c : Int) < (cN : Int)) = false := decide_eq_false (by omega)
      (repeat (first | refine gk fun K hK => ?_ | refine zs2 ?_)); refine zs193 ?_; (repeat (first | refine gk fun K hK => ?_ | refine zs2 ?_))
      refine zs45 ?_
      (repeat (first | refine gk fun K hK => ?_ | refine zs2 ?_))
      refine aW_sh (Sh_shut' (k := 19) zb57 zb46 zb50) ?_
      refine zs174 ?_
      (repeat (first | refine gk fun K hK => ?_ | refine zs2 ?_))
      rw [eT]
      exact ⟨_, Sh.refl, .one (.tmp 4) _ rfl (.tmp 4 rfl)⟩
end DW
end Go.Proofs.YtcgjmdpcplhanaaGreat
