/- Contract: the units. -/
import Derived.Test.YthajaabgcbjfkaaU1
namespace Go.Proofs.Ythajaabgcbjfkaa
open Go.RowKit

def unA : List Qt := [⟨2, 0, 0, 0⟩, ⟨-2, 0, 0, 0⟩, ⟨0, 2, 0, 0⟩, ⟨0, -2, 0, 0⟩, ⟨0, 0, 2, 0⟩, ⟨0, 0, -2, 0⟩, ⟨0, 0, 0, 2⟩, ⟨0, 0, 0, -2⟩]
def unB : List Qt := [⟨1, 1, 1, 1⟩, ⟨-1, 1, 1, 1⟩, ⟨1, -1, 1, 1⟩, ⟨-1, -1, 1, 1⟩, ⟨1, 1, -1, 1⟩, ⟨-1, 1, -1, 1⟩, ⟨1, -1, -1, 1⟩, ⟨-1, -1, -1, 1⟩, ⟨1, 1, 1, -1⟩, ⟨-1, 1, 1, -1⟩, ⟨1, -1, 1, -1⟩, ⟨-1, -1, 1, -1⟩, ⟨1, 1, -1, -1⟩, ⟨-1, 1, -1, -1⟩, ⟨1, -1, -1, -1⟩, ⟨-1, -1, -1, -1⟩]
theorem four (k : Nat) (h : k < 4) : k = 0 ∨ k = 1 ∨ k = 2 ∨ k = 3 := by omega
theorem two (k : Nat) (h : k < 2) : k = 0 ∨ k = 1 := by omega
theorem sixteen (k : Nat) (h : k < 16) : k = 0 ∨ k = 1 ∨ k = 2 ∨ k = 3 ∨ k = 4 ∨ k = 5 ∨ k = 6 ∨ k = 7 ∨ k = 8 ∨ k = 9 ∨ k = 10 ∨ k = 11 ∨ k = 12 ∨ k = 13 ∨ k = 14 ∨ k = 15 := by omega

/-- What the loops keep. -/
def UInv (B : Nat) (w0 : World) (v : Value) (l : List Qt) (w : World) : Prop := OwnH w B v l ∧ Below B w0 w ∧ B ≤ w.heap.size

set_option maxRecDepth 10000 in
set_option maxHeartbeats 4000000 in
theorem units_any (w : World) :
    Calls Try.prog 78 #[] w fun e w' => ∃ g cap, e = .returned (.slice (some ⟨g, 0, none⟩) 24 cap) ∧ w.heap.size ≤ g ∧ OwnH w' w.heap.size (.slice (some ⟨g, 0, none⟩) 24 cap) (sortDn (unA ++ unB)) ∧ Below w.heap.size w w' := by
  have j0 : ∀ (w : World), (Instr.index 143 (.agg #[.int .i64 2, .int .i64 (-2)]) (.int .i64 0)).run Try.prog w = .ok (.int .i64 2) w := fun _ => by kernel_rfl
  have j1 : ∀ (w : World), (Instr.index 143 (.agg #[.int .i64 2, .int .i64 (-2)]) (.int .i64 1)).run Try.prog w = .ok (.int .i64 (-2)) w := fun _ => by kernel_rfl
  go_enter Try.func78, Try.ntmps78
  go_wp2
  go_loopw [1, 9] (fun v i wr => ∃ k : Nat, k ≤ 4 ∧ i = .int .i64 k ∧ UInv w.heap.size w v (unA.take (2 * k)) wr) (fun _ i _ => 4 - (intOf i).toNat)
  case atStart => exact ⟨0, by omega, rfl, OwnH.nil _ _, Below.refl _ _, Nat.le_refl _⟩
  case round =>
    obtain ⟨k, hk, rfl, hown, hB, hz⟩ := hrel
    by_cases hk4 : k < 4
    · obtain ⟨wo, rfl⟩ : ∃ wo : World, wo = wr := ⟨_, rfl⟩
      rcases four k hk4 with rfl | rfl | rfl | rfl
      all_goals
        go_wp2
        refine wp_loop_rounds 3 ?_
        rw [rounds_succ]
        go_wp2_with (first | (at_builtin; go_must (refine append_hur (hown.alloc _) (hB.alloc hz _) (by simp; omega) ⟨_, _, _, _⟩ (by decide) rfl (.tmp 20) (.tmp 22) rfl (by rfl) (by rfl) (by simp) ?_); intro v1 w1 hown1 hB1 hz1))
        clear hown hB hz
        rw [rounds_succ]
        go_wp2_with (first | (at_builtin; refine append_hur (hown1.alloc _) (hB1.alloc hz1 _) (by simp; omega) ⟨_, _, _, _⟩ (by decide) rfl (.tmp 20) (.tmp 22) rfl (by rfl) (by rfl) (by simp) ?_; intro v2 w2 hown2 hB2 hz2))
        clear hown1 hB1 hz1
        rw [rounds_succ]
        go_wp2
        go_roundw
        case rel => first | exact ⟨1, by omega, by go_num, hown2, hB2, hz2⟩ | exact ⟨2, by omega, by go_num, hown2, hB2, hz2⟩ | exact ⟨3, by omega, by go_num, hown2, hB2, hz2⟩ | exact ⟨4, by omega, by go_num, hown2, hB2, hz2⟩
        case measure => simp [intOf]
    · obtain rfl : k = 4 := by omega
      obtain ⟨wo, rfl⟩ : ∃ wo : World, wo = wr := ⟨_, rfl⟩
      go_wp2
      simp only [show ((4 : Nat) : Int) = 4 from rfl]
      go_loopw [1, 26] (fun v i wr => ∃ k : Nat, k ≤ 16 ∧ i = .int .i64 k ∧ UInv w.heap.size w v (unA ++ unB.take k) wr) (fun _ i _ => 16 - (intOf i).toNat)
      case atStart => exact ⟨0, by omega, rfl, hown, hB, hz⟩
      case round =>
        clear hown hB hz
        obtain ⟨k, hk, rfl, hown, hB, hz⟩ := hrel
        by_cases hk16 : k < 16
        · obtain ⟨wo, rfl⟩ : ∃ wo : World, wo = wr := ⟨_, rfl⟩
          rcases sixteen k hk16 with rfl | rfl | rfl | rfl | rfl | rfl | rfl | rfl | rfl | rfl | rfl | rfl | rfl | rfl | rfl | rfl
          all_goals
            go_wp2
            refine wp_loop_rounds 5 ?_
            iterate 4 (rw [rounds_succ]; go_wp2)
            rw [rounds_succ]
            go_wp2_with (first | (at_builtin; go_must (refine append_hur (hown.alloc _) (hB.alloc hz _) (by simp; omega) ⟨_, _, _, _⟩ (by decide) rfl (.tmp 43) (.tmp 45) rfl (by rfl) (by rfl) (by simp) ?_); intro v2 w2 hown2 hB2 hz2))
            go_roundw
            case rel => first | exact ⟨1, by omega, by go_num, hown2, hB2, hz2⟩ | exact ⟨2, by omega, by go_num, hown2, hB2, hz2⟩ | exact ⟨3, by omega, by go_num, hown2, hB2, hz2⟩ | exact ⟨4, by omega, by go_num, hown2, hB2, hz2⟩ | exact ⟨5, by omega, by go_num, hown2, hB2, hz2⟩ | exact ⟨6, by omega, by go_num, hown2, hB2, hz2⟩ | exact ⟨7, by omega, by go_num, hown2, hB2, hz2⟩ | exact ⟨8, by omega, by go_num, hown2, hB2, hz2⟩ | exact ⟨9, by omega, by go_num, hown2, hB2, hz2⟩ | exact ⟨10, by omega, by go_num, hown2, hB2, hz2⟩ | exact ⟨11, by omega, by go_num, hown2, hB2, hz2⟩ | exact ⟨12, by omega, by go_num, hown2, hB2, hz2⟩ | exact ⟨13, by omega, by go_num, hown2, hB2, hz2⟩ | exact ⟨14, by omega, by go_num, hown2, hB2, hz2⟩ | exact ⟨15, by omega, by go_num, hown2, hB2, hz2⟩ | exact ⟨16, by omega, by go_num, hown2, hB2, hz2⟩
            case measure => simp [intOf]
        · obtain rfl : k = 16 := by omega
          obtain ⟨wo, rfl⟩ : ∃ wo : World, wo = wr := ⟨_, rfl⟩
          obtain ⟨g, cap, rfl, hg1, hg2, hrow⟩ := hown.slice (by decide)
          go_wp2_with (first | (go_at_call 116; refine (sortDn_any w.heap.size g cap (unA ++ unB.take 16) _ hrow (by decide)).mono ?_; rintro e w1 ⟨rfl, hown1, hgr⟩))
          go_ret
          have e16 : unA ++ unB.take 16 = unA ++ unB := rfl
          rw [e16] at hown1
          exact ⟨g, cap, rfl, hg1, by unfold OwnH; rw [length_sortDn]; exact hown1, hB.grown hgr hz (fun k hk => by injection hk with hk; omega)⟩

end Go.Proofs.Ythajaabgcbjfkaa
