/- Contracts: comparing. -/
import Derived.Test.YthajaabgcbjfkaaA3
namespace Go.Proofs.Ythajaabgcbjfkaa
open Go.RowKit

def cmpI (x y : Int) : Int := if x < y then -1 else if y < x then 1 else 0
def Qt.cmp (a b : Qt) : Int := if (cmpI a.w b.w != 0) = true then cmpI a.w b.w else if (cmpI a.x b.x != 0) = true then cmpI a.x b.x else if (cmpI a.y b.y != 0) = true then cmpI a.y b.y else cmpI a.z b.z

set_option maxHeartbeats 400000 in
theorem cmpI_any (x y : Int) (w : World) :
    Calls Try.prog 139 #[.int .i64 x, .int .i64 y] w fun e w' => e = .returned (.int .i64 (cmpI x y)) ∧ w = w' := by
  have h1 : ∀ a : Int, (a != a) = false := by simp
  go_enter Try.func139, Try.ntmps139
  go_wp2
  all_goals (go_ret; refine ⟨?_, rfl⟩; first | (simp [cmpI, *]; done) | (simp [cmpI]; omega))

set_option maxRecDepth 10000 in
set_option maxHeartbeats 1000000 in
theorem slicesCompare_any (a b : Qt) (b1 b2 c1 c2 : Nat) (w : World)
    (a0 : w.cell? ⟨b1, 0, none⟩ = some (.int .i64 a.w)) (a1 : w.cell? ⟨b1, 1, none⟩ = some (.int .i64 a.x)) (a2 : w.cell? ⟨b1, 2, none⟩ = some (.int .i64 a.y)) (a3 : w.cell? ⟨b1, 3, none⟩ = some (.int .i64 a.z))
    (d0 : w.cell? ⟨b2, 0, none⟩ = some (.int .i64 b.w)) (d1 : w.cell? ⟨b2, 1, none⟩ = some (.int .i64 b.x)) (d2 : w.cell? ⟨b2, 2, none⟩ = some (.int .i64 b.y)) (d3 : w.cell? ⟨b2, 3, none⟩ = some (.int .i64 b.z)) :
    Calls Try.prog 126 #[.slice (some ⟨b1, 0, none⟩) 4 c1, .slice (some ⟨b2, 0, none⟩) 4 c2] w fun e w' => e = .returned (.int .i64 (a.cmp b)) ∧ w = w' := by
  go_enter Try.func126, Try.ntmps126
  go_wp2_with (first | (go_at_call 139; with_reducible refine (cmpI_any _ _ _).mono ?_; rintro e w' ⟨rfl, rfl⟩))
  refine wp_loop_rounds 5 ?_
  repeat any_goals (rw [rounds_succ]; go_wp2_with (first | (go_at_call 139; with_reducible refine (cmpI_any _ _ _).mono ?_; rintro e w' ⟨rfl, rfl⟩)))
  all_goals (go_ret; refine ⟨?_, rfl⟩; first | (simp only [Qt.cmp, *]; simp; done) | (have hz : cmpI a.z b.z = 0 := (by simpa using ‹(cmpI a.z b.z != 0) = false›); simp only [Qt.cmp, *]; simp))

theorem same_below {v : Value} {w : World} : ∀ (e : Ending) (w' : World), (e = .returned v ∧ w = w') → e = .returned v ∧ Below w.heap.size w w' := fun _ _ ⟨he, hw⟩ => ⟨he, hw ▸ Below.refl _ _⟩

set_option maxHeartbeats 400000 in
theorem compare_any (a b : Qt) (w : World) :
    Calls Try.prog 118 #[.agg #[.int .i64 a.w, .int .i64 a.x, .int .i64 a.y, .int .i64 a.z], .agg #[.int .i64 b.w, .int .i64 b.x, .int .i64 b.y, .int .i64 b.z]] w fun e w' => e = .returned (.int .i64 (a.cmp b)) ∧ Below w.heap.size w w' := by
  go_enter Try.func118, Try.ntmps118
  go_wp2_with fail
  (refine wp_region_quiet (C := Ext _) (by kernel_rfl) (by kernel_rfl) (Ext.start _) ?_; simp only []; (repeat (refine wpQuiet_step (fun K hK => ?_); go_simp; (try go_bits); apply Exists.intro; refine ⟨fun w' hw' => ?_, hK _ ?_⟩; (focus (first | with_reducible exact rfl | (go_at_call 126; (obtain ⟨gx, rfl⟩ := more_of_below (Ext.below hw'); refine Ext.call hw' (Calls.mono (slicesCompare_any a b w.heap.size (w.heap.size + 1) 4 4 _ ?_ ?_ ?_ ?_ ?_ ?_ ?_ ?_) same_below); (iterate 8 (focus go_simp)))) | (obtain ⟨gx, rfl⟩ := more_of_below (Ext.below hw'); go_simp; exact rfl))); clear hK K)); refine wpQuiet_nil ?_; intro w1 hw1; have hb1 := Ext.below hw1; clear hw1; obtain ⟨g1, rfl⟩ := more_of_below hb1; clear hb1)
  go_wp2
  go_ret
  exact ⟨rfl, by (repeat (first | with_reducible assumption | with_reducible exact Below.refl _ _ | with_reducible refine Below.drewN ?_ _ | with_reducible refine Below.drew ?_ | with_reducible refine Below.alloc ?_ (by first | omega | (simp; done) | (simp; omega)) _ | with_reducible refine Below.setCell ?_ (by first | omega | (simp; done) | (simp; omega)) _ | with_reducible refine below_more _ _ ?_ (by first | omega | (simp; done) | (simp; omega))))⟩

end Go.Proofs.Ythajaabgcbjfkaa
