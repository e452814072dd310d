/- '==' and '!=' at the arrays and structs of this program, in any world. '==' and '!=' at rotations: nine numbers and a denominator. -/
import Derived.Test.YthajaabgcbjfkaaDoorRows
import Derived.Test.YthajaabgcbjfkaaDoorBase
import Derived.WalkSpells
import Derived.WalkLawsBesides
namespace Go.Proofs.YthajaabgcbjfkaaDoor
open Go.RowKit

section
variable {P : Program}
theorem part_int (e : TypeId) (i3 : ∀ w : World, Sem.run P (isAgg e) w = .ok false w) (xs : Array Value) (i : Nat) (v : Value) (h : xs[i]? = some v) (w : World) :
    (part e xs i).run P w = .ok v w := by
  simp [part, Sem.run_bind, i3, h]
theorem eqIn_int (e : TypeId) (h3 : P.underlying e = some (.int .i64)) (d : Nat) (a b : Int) (w : World) : (Op.equalIn (d + 1) e (.int .i64 a) (.int .i64 b)).run P w = .ok (decide (a = b)) w := by
  rw [run_equalIn_int w d e .i64 .i64 a b h3]; rfl
theorem eqIn_arr4 (t e : TypeId) (hu : P.underlying t = some (.array 4 e)) (h3 : P.underlying e = some (.int .i64)) (s3 : ∀ w : World, Sem.run P (sizeOf e) w = .ok 1 w) (i3 : ∀ w : World, Sem.run P (isAgg e) w = .ok false w)
    (d : Nat) (a b : Qt) (w : World) : (Op.equalIn (d + 2) t (.agg #[.int .i64 a.w, .int .i64 a.x, .int .i64 a.y, .int .i64 a.z]) (.agg #[.int .i64 b.w, .int .i64 b.x, .int .i64 b.y, .int .i64 b.z])).run P w = .ok (decide (a.w = b.w ∧ a.x = b.x ∧ a.y = b.y ∧ a.z = b.z)) w := by
  have p0 : ∀ (a : Qt) (w : World), (part e #[.int .i64 a.w, .int .i64 a.x, .int .i64 a.y, .int .i64 a.z] 0).run P w = .ok (.int .i64 a.w) w := fun a w => part_int e i3 _ 0 _ rfl w
  have p1 : ∀ (a : Qt) (w : World), (part e #[.int .i64 a.w, .int .i64 a.x, .int .i64 a.y, .int .i64 a.z] 1).run P w = .ok (.int .i64 a.x) w := fun a w => part_int e i3 _ 1 _ rfl w
  have p2 : ∀ (a : Qt) (w : World), (part e #[.int .i64 a.w, .int .i64 a.x, .int .i64 a.y, .int .i64 a.z] 2).run P w = .ok (.int .i64 a.y) w := fun a w => part_int e i3 _ 2 _ rfl w
  have p3 : ∀ (a : Qt) (w : World), (part e #[.int .i64 a.w, .int .i64 a.x, .int .i64 a.y, .int .i64 a.z] 3).run P w = .ok (.int .i64 a.z) w := fun a w => part_int e i3 _ 3 _ rfl w
  have q := eqIn_int e h3 d
  clear h3 i3
  unfold Op.equalIn
  simp only [Sem.run_bind, run_underlying hu, Result.andThen_ok, s3, Std.Legacy.Range.forIn_eq_forIn_range', Std.Legacy.Range.size]
  rw [show List.range' 0 ((4 - 0 + 1 - 1) / 1) 1 = [0, 1, 2, 3] from rfl]
  simp only [List.forIn_cons, List.forIn_nil, Sem.run_bind, Nat.reduceMul, p0, q, Result.andThen_ok]
  rw [Bool.decide_and, Bool.decide_and, Bool.decide_and]
  generalize hz0 : decide (a.w = b.w) = r0
  cases r0
  · simp
  generalize hz1 : decide (a.x = b.x) = r1
  cases r1
  · simp [Sem.run_bind, p1, q, hz1]
  generalize hz2 : decide (a.y = b.y) = r2
  cases r2
  · simp [Sem.run_bind, p1, p2, q, hz1, hz2]
  generalize hz3 : decide (a.z = b.z) = r3
  cases r3 <;> simp [Sem.run_bind, p1, p2, p3, q, hz1, hz2, hz3]
theorem eql_of_in (t : TypeId) (xs ys : Array Value) (r : Bool) (w : World) (h : (Op.equalIn 10000 t (.agg xs) (.agg ys)).run P w = .ok r w) : (binOp .eql t (.agg xs) (.agg ys)).run P w = .ok (.bool r) w := by
  rw [run_eql_struct, h]; rfl
theorem neq_of_in (t : TypeId) (xs ys : Array Value) (r : Bool) (w : World) (h : (Op.equalIn 10000 t (.agg xs) (.agg ys)).run P w = .ok r w) : (binOp .neq t (.agg xs) (.agg ys)).run P w = .ok (.bool (!r)) w := by
  rw [run_neq_struct, h]; rfl
end

theorem eqIn_quad (d : Nat) (a b : Qt) (w : World) : (Op.equalIn (d + 2) 54 (.agg #[.int .i64 a.w, .int .i64 a.x, .int .i64 a.y, .int .i64 a.z]) (.agg #[.int .i64 b.w, .int .i64 b.x, .int .i64 b.y, .int .i64 b.z])).run Tryd.prog w = .ok (decide (a.w = b.w ∧ a.x = b.x ∧ a.y = b.y ∧ a.z = b.z)) w :=
  eqIn_arr4 _ _ Tryd.underlying54 Tryd.underlying3 Tryd.sizeOf3 Tryd.isAgg3 d a b w
theorem eqIn_a4 (d : Nat) (a b : Qt) (w : World) : (Op.equalIn (d + 2) 35 (.agg #[.int .i64 a.w, .int .i64 a.x, .int .i64 a.y, .int .i64 a.z]) (.agg #[.int .i64 b.w, .int .i64 b.x, .int .i64 b.y, .int .i64 b.z])).run Tryd.prog w = .ok (decide (a.w = b.w ∧ a.x = b.x ∧ a.y = b.y ∧ a.z = b.z)) w :=
  eqIn_arr4 _ _ Tryd.underlying35 Tryd.underlying3 Tryd.sizeOf3 Tryd.isAgg3 d a b w
theorem eqIn_hur (d : Nat) (a b : Qt) (w : World) : (Op.equalIn (d + 2) 71 (.agg #[.int .i64 a.w, .int .i64 a.x, .int .i64 a.y, .int .i64 a.z]) (.agg #[.int .i64 b.w, .int .i64 b.x, .int .i64 b.y, .int .i64 b.z])).run Tryd.prog w = .ok (decide (a.w = b.w ∧ a.x = b.x ∧ a.y = b.y ∧ a.z = b.z)) w :=
  eqIn_arr4 _ _ Tryd.underlying71 Tryd.underlying3 Tryd.sizeOf3 Tryd.isAgg3 d a b w

theorem eqIn_hurwitz (d : Nat) (a b : Qt) (w : World) : (Op.equalIn (d + 3) 80 (.agg #[.int .i64 a.w, .int .i64 a.x, .int .i64 a.y, .int .i64 a.z]) (.agg #[.int .i64 b.w, .int .i64 b.x, .int .i64 b.y, .int .i64 b.z])).run Tryd.prog w = .ok (decide (a.w = b.w ∧ a.x = b.x ∧ a.y = b.y ∧ a.z = b.z)) w := by
  have hS : Tryd.prog.underlying 80 = some (.struct (Tryd.prog.fieldsOf 80)) := by kernel_rfl
  have hp : Tryd.prog.stoodInHeld 80 = false := by kernel_rfl
  have i94 := Tryd.isAgg54
  have s94 := Tryd.sizeOf54
  rw [run_equalIn_agg w (d + 2) 80 _ _ hS hp]
  have he := eqIn_quad d a b
  simp only [Program.fieldsOf, Tryd.underlying80]
  go_simp
  by_cases h0 : a.w = b.w <;> by_cases h1 : a.x = b.x <;> by_cases h2 : a.y = b.y <;> by_cases h3 : a.z = b.z <;> simp [h0, h1, h2, h3]


theorem eqIn_quat (d : Nat) (a b : Qd) (w : World) : (Op.equalIn (d + 3) 33 (.agg #[.int .i64 a.w, .int .i64 a.x, .int .i64 a.y, .int .i64 a.z, .int .i64 a.d]) (.agg #[.int .i64 b.w, .int .i64 b.x, .int .i64 b.y, .int .i64 b.z, .int .i64 b.d])).run Tryd.prog w = .ok (decide (a.w = b.w ∧ a.x = b.x ∧ a.y = b.y ∧ a.z = b.z ∧ a.d = b.d)) w := by
  have hS : Tryd.prog.underlying 33 = some (.struct (Tryd.prog.fieldsOf 33)) := by kernel_rfl
  have hp : Tryd.prog.stoodInHeld 33 = false := by kernel_rfl
  have h3 := Tryd.underlying3
  have s3 := Tryd.sizeOf3
  have i3 := Tryd.isAgg3
  rw [run_equalIn_agg w (d + 2) 33 _ _ hS hp]
  simp only [Program.fieldsOf, Tryd.underlying33]
  go_simp
  by_cases h0 : a.w = b.w <;> by_cases h1 : a.x = b.x <;> by_cases h2 : a.y = b.y <;> by_cases h3 : a.z = b.z <;> by_cases h4 : a.d = b.d <;> simp [h0, h1, h2, h3, h4]

/-- Two Divisions: two elements each. -/
theorem eqIn_div (d : Nat) (a b c e : Qd) (w : World) : (Op.equalIn (d + 4) 40 (.agg #[.int .i64 a.w, .int .i64 a.x, .int .i64 a.y, .int .i64 a.z, .int .i64 a.d, .int .i64 b.w, .int .i64 b.x, .int .i64 b.y, .int .i64 b.z, .int .i64 b.d]) (.agg #[.int .i64 c.w, .int .i64 c.x, .int .i64 c.y, .int .i64 c.z, .int .i64 c.d, .int .i64 e.w, .int .i64 e.x, .int .i64 e.y, .int .i64 e.z, .int .i64 e.d])).run Tryd.prog w = .ok (a.eqb c && b.eqb e) w := by
  have hS : Tryd.prog.underlying 40 = some (.struct (Tryd.prog.fieldsOf 40)) := by kernel_rfl
  have hp : Tryd.prog.stoodInHeld 40 = false := by kernel_rfl
  have i23 := Tryd.isAgg33
  have s23 := Tryd.sizeOf33
  rw [run_equalIn_agg w (d + 3) 40 _ _ hS hp]
  have he : ∀ (a b : Qd) (w : World), (Op.equalIn (d + 3) 33 (.agg #[.int .i64 a.w, .int .i64 a.x, .int .i64 a.y, .int .i64 a.z, .int .i64 a.d]) (.agg #[.int .i64 b.w, .int .i64 b.x, .int .i64 b.y, .int .i64 b.z, .int .i64 b.d])).run Tryd.prog w = .ok (a.eqb b) w := fun a b w => eqIn_quat d a b w
  have h1 := he a c
  have h2 := he b e
  clear he
  simp only [Program.fieldsOf, Tryd.underlying40]
  go_simp
  cases a.eqb c <;> simp
  cases b.eqb e <;> simp

@[go_sem] theorem guard_quad (op : BinOp) (x y : Operand) (xs ys : Array Value) (w : World) : (eqGuard op 54 x y (.agg xs) (.agg ys)).run Tryd.prog w = .ok () w := run_eqGuard_agg w op _ x y xs ys (by kernel_rfl)
@[go_sem] theorem guard_a4 (op : BinOp) (x y : Operand) (xs ys : Array Value) (w : World) : (eqGuard op 35 x y (.agg xs) (.agg ys)).run Tryd.prog w = .ok () w := run_eqGuard_agg w op _ x y xs ys (by kernel_rfl)
@[go_sem] theorem guard_hur (op : BinOp) (x y : Operand) (xs ys : Array Value) (w : World) : (eqGuard op 71 x y (.agg xs) (.agg ys)).run Tryd.prog w = .ok () w := run_eqGuard_agg w op _ x y xs ys (by kernel_rfl)
@[go_sem] theorem guard_hurwitz (op : BinOp) (x y : Operand) (xs ys : Array Value) (w : World) : (eqGuard op 80 x y (.agg xs) (.agg ys)).run Tryd.prog w = .ok () w := run_eqGuard_agg w op _ x y xs ys (by kernel_rfl)
@[go_sem] theorem guard_quat (op : BinOp) (x y : Operand) (xs ys : Array Value) (w : World) : (eqGuard op 33 x y (.agg xs) (.agg ys)).run Tryd.prog w = .ok () w := run_eqGuard_agg w op _ x y xs ys (by kernel_rfl)
@[go_sem] theorem guard_div (op : BinOp) (x y : Operand) (xs ys : Array Value) (w : World) : (eqGuard op 40 x y (.agg xs) (.agg ys)).run Tryd.prog w = .ok () w := run_eqGuard_agg w op _ x y xs ys (by kernel_rfl)
@[go_sem] theorem eqI_quad (a0 a1 a2 a3 b0 b1 b2 b3 : Int) (w : World) : (Op.equalIn 10000 54 (.agg #[.int .i64 a0, .int .i64 a1, .int .i64 a2, .int .i64 a3]) (.agg #[.int .i64 b0, .int .i64 b1, .int .i64 b2, .int .i64 b3])).run Tryd.prog w = .ok (Qt.eqb ⟨a0, a1, a2, a3⟩ ⟨b0, b1, b2, b3⟩) w := eqIn_quad 9998 ⟨a0, a1, a2, a3⟩ ⟨b0, b1, b2, b3⟩ w
@[go_sem] theorem eql_quad (a0 a1 a2 a3 b0 b1 b2 b3 : Int) (w : World) : (binOp .eql 54 (.agg #[.int .i64 a0, .int .i64 a1, .int .i64 a2, .int .i64 a3]) (.agg #[.int .i64 b0, .int .i64 b1, .int .i64 b2, .int .i64 b3])).run Tryd.prog w = .ok (.bool (Qt.eqb ⟨a0, a1, a2, a3⟩ ⟨b0, b1, b2, b3⟩)) w := eql_of_in _ _ _ _ w (eqIn_quad 9998 ⟨a0, a1, a2, a3⟩ ⟨b0, b1, b2, b3⟩ w)
@[go_sem] theorem neq_quad (a0 a1 a2 a3 b0 b1 b2 b3 : Int) (w : World) : (binOp .neq 54 (.agg #[.int .i64 a0, .int .i64 a1, .int .i64 a2, .int .i64 a3]) (.agg #[.int .i64 b0, .int .i64 b1, .int .i64 b2, .int .i64 b3])).run Tryd.prog w = .ok (.bool (!Qt.eqb ⟨a0, a1, a2, a3⟩ ⟨b0, b1, b2, b3⟩)) w := neq_of_in _ _ _ _ w (eqIn_quad 9998 ⟨a0, a1, a2, a3⟩ ⟨b0, b1, b2, b3⟩ w)
@[go_sem] theorem eqI_a4 (a0 a1 a2 a3 b0 b1 b2 b3 : Int) (w : World) : (Op.equalIn 10000 35 (.agg #[.int .i64 a0, .int .i64 a1, .int .i64 a2, .int .i64 a3]) (.agg #[.int .i64 b0, .int .i64 b1, .int .i64 b2, .int .i64 b3])).run Tryd.prog w = .ok (Qt.eqb ⟨a0, a1, a2, a3⟩ ⟨b0, b1, b2, b3⟩) w := eqIn_a4 9998 ⟨a0, a1, a2, a3⟩ ⟨b0, b1, b2, b3⟩ w
@[go_sem] theorem eql_a4 (a0 a1 a2 a3 b0 b1 b2 b3 : Int) (w : World) : (binOp .eql 35 (.agg #[.int .i64 a0, .int .i64 a1, .int .i64 a2, .int .i64 a3]) (.agg #[.int .i64 b0, .int .i64 b1, .int .i64 b2, .int .i64 b3])).run Tryd.prog w = .ok (.bool (Qt.eqb ⟨a0, a1, a2, a3⟩ ⟨b0, b1, b2, b3⟩)) w := eql_of_in _ _ _ _ w (eqIn_a4 9998 ⟨a0, a1, a2, a3⟩ ⟨b0, b1, b2, b3⟩ w)
@[go_sem] theorem neq_a4 (a0 a1 a2 a3 b0 b1 b2 b3 : Int) (w : World) : (binOp .neq 35 (.agg #[.int .i64 a0, .int .i64 a1, .int .i64 a2, .int .i64 a3]) (.agg #[.int .i64 b0, .int .i64 b1, .int .i64 b2, .int .i64 b3])).run Tryd.prog w = .ok (.bool (!Qt.eqb ⟨a0, a1, a2, a3⟩ ⟨b0, b1, b2, b3⟩)) w := neq_of_in _ _ _ _ w (eqIn_a4 9998 ⟨a0, a1, a2, a3⟩ ⟨b0, b1, b2, b3⟩ w)
@[go_sem] theorem eqI_hur (a0 a1 a2 a3 b0 b1 b2 b3 : Int) (w : World) : (Op.equalIn 10000 71 (.agg #[.int .i64 a0, .int .i64 a1, .int .i64 a2, .int .i64 a3]) (.agg #[.int .i64 b0, .int .i64 b1, .int .i64 b2, .int .i64 b3])).run Tryd.prog w = .ok (Qt.eqb ⟨a0, a1, a2, a3⟩ ⟨b0, b1, b2, b3⟩) w := eqIn_hur 9998 ⟨a0, a1, a2, a3⟩ ⟨b0, b1, b2, b3⟩ w
@[go_sem] theorem eql_hur (a0 a1 a2 a3 b0 b1 b2 b3 : Int) (w : World) : (binOp .eql 71 (.agg #[.int .i64 a0, .int .i64 a1, .int .i64 a2, .int .i64 a3]) (.agg #[.int .i64 b0, .int .i64 b1, .int .i64 b2, .int .i64 b3])).run Tryd.prog w = .ok (.bool (Qt.eqb ⟨a0, a1, a2, a3⟩ ⟨b0, b1, b2, b3⟩)) w := eql_of_in _ _ _ _ w (eqIn_hur 9998 ⟨a0, a1, a2, a3⟩ ⟨b0, b1, b2, b3⟩ w)
@[go_sem] theorem neq_hur (a0 a1 a2 a3 b0 b1 b2 b3 : Int) (w : World) : (binOp .neq 71 (.agg #[.int .i64 a0, .int .i64 a1, .int .i64 a2, .int .i64 a3]) (.agg #[.int .i64 b0, .int .i64 b1, .int .i64 b2, .int .i64 b3])).run Tryd.prog w = .ok (.bool (!Qt.eqb ⟨a0, a1, a2, a3⟩ ⟨b0, b1, b2, b3⟩)) w := neq_of_in _ _ _ _ w (eqIn_hur 9998 ⟨a0, a1, a2, a3⟩ ⟨b0, b1, b2, b3⟩ w)
@[go_sem] theorem eqI_hurwitz (a0 a1 a2 a3 b0 b1 b2 b3 : Int) (w : World) : (Op.equalIn 10000 80 (.agg #[.int .i64 a0, .int .i64 a1, .int .i64 a2, .int .i64 a3]) (.agg #[.int .i64 b0, .int .i64 b1, .int .i64 b2, .int .i64 b3])).run Tryd.prog w = .ok (Qt.eqb ⟨a0, a1, a2, a3⟩ ⟨b0, b1, b2, b3⟩) w := eqIn_hurwitz 9997 ⟨a0, a1, a2, a3⟩ ⟨b0, b1, b2, b3⟩ w
@[go_sem] theorem eql_hurwitz (a0 a1 a2 a3 b0 b1 b2 b3 : Int) (w : World) : (binOp .eql 80 (.agg #[.int .i64 a0, .int .i64 a1, .int .i64 a2, .int .i64 a3]) (.agg #[.int .i64 b0, .int .i64 b1, .int .i64 b2, .int .i64 b3])).run Tryd.prog w = .ok (.bool (Qt.eqb ⟨a0, a1, a2, a3⟩ ⟨b0, b1, b2, b3⟩)) w := eql_of_in _ _ _ _ w (eqIn_hurwitz 9997 ⟨a0, a1, a2, a3⟩ ⟨b0, b1, b2, b3⟩ w)
@[go_sem] theorem neq_hurwitz (a0 a1 a2 a3 b0 b1 b2 b3 : Int) (w : World) : (binOp .neq 80 (.agg #[.int .i64 a0, .int .i64 a1, .int .i64 a2, .int .i64 a3]) (.agg #[.int .i64 b0, .int .i64 b1, .int .i64 b2, .int .i64 b3])).run Tryd.prog w = .ok (.bool (!Qt.eqb ⟨a0, a1, a2, a3⟩ ⟨b0, b1, b2, b3⟩)) w := neq_of_in _ _ _ _ w (eqIn_hurwitz 9997 ⟨a0, a1, a2, a3⟩ ⟨b0, b1, b2, b3⟩ w)
@[go_sem] theorem eqI_quat (a0 a1 a2 a3 a4 b0 b1 b2 b3 b4 : Int) (w : World) : (Op.equalIn 10000 33 (.agg #[.int .i64 a0, .int .i64 a1, .int .i64 a2, .int .i64 a3, .int .i64 a4]) (.agg #[.int .i64 b0, .int .i64 b1, .int .i64 b2, .int .i64 b3, .int .i64 b4])).run Tryd.prog w = .ok (Qd.eqb ⟨a0, a1, a2, a3, a4⟩ ⟨b0, b1, b2, b3, b4⟩) w := eqIn_quat 9997 ⟨a0, a1, a2, a3, a4⟩ ⟨b0, b1, b2, b3, b4⟩ w
@[go_sem] theorem eql_quat (a0 a1 a2 a3 a4 b0 b1 b2 b3 b4 : Int) (w : World) : (binOp .eql 33 (.agg #[.int .i64 a0, .int .i64 a1, .int .i64 a2, .int .i64 a3, .int .i64 a4]) (.agg #[.int .i64 b0, .int .i64 b1, .int .i64 b2, .int .i64 b3, .int .i64 b4])).run Tryd.prog w = .ok (.bool (Qd.eqb ⟨a0, a1, a2, a3, a4⟩ ⟨b0, b1, b2, b3, b4⟩)) w := eql_of_in _ _ _ _ w (eqIn_quat 9997 ⟨a0, a1, a2, a3, a4⟩ ⟨b0, b1, b2, b3, b4⟩ w)
@[go_sem] theorem neq_quat (a0 a1 a2 a3 a4 b0 b1 b2 b3 b4 : Int) (w : World) : (binOp .neq 33 (.agg #[.int .i64 a0, .int .i64 a1, .int .i64 a2, .int .i64 a3, .int .i64 a4]) (.agg #[.int .i64 b0, .int .i64 b1, .int .i64 b2, .int .i64 b3, .int .i64 b4])).run Tryd.prog w = .ok (.bool (!Qd.eqb ⟨a0, a1, a2, a3, a4⟩ ⟨b0, b1, b2, b3, b4⟩)) w := neq_of_in _ _ _ _ w (eqIn_quat 9997 ⟨a0, a1, a2, a3, a4⟩ ⟨b0, b1, b2, b3, b4⟩ w)
@[go_sem] theorem eqI_div (a0 a1 a2 a3 a4 a5 a6 a7 a8 a9 b0 b1 b2 b3 b4 b5 b6 b7 b8 b9 : Int) (w : World) : (Op.equalIn 10000 40 (.agg #[.int .i64 a0, .int .i64 a1, .int .i64 a2, .int .i64 a3, .int .i64 a4, .int .i64 a5, .int .i64 a6, .int .i64 a7, .int .i64 a8, .int .i64 a9]) (.agg #[.int .i64 b0, .int .i64 b1, .int .i64 b2, .int .i64 b3, .int .i64 b4, .int .i64 b5, .int .i64 b6, .int .i64 b7, .int .i64 b8, .int .i64 b9])).run Tryd.prog w = .ok (Qd.eqb ⟨a0, a1, a2, a3, a4⟩ ⟨b0, b1, b2, b3, b4⟩ && Qd.eqb ⟨a5, a6, a7, a8, a9⟩ ⟨b5, b6, b7, b8, b9⟩) w := eqIn_div 9996 ⟨a0, a1, a2, a3, a4⟩ ⟨a5, a6, a7, a8, a9⟩ ⟨b0, b1, b2, b3, b4⟩ ⟨b5, b6, b7, b8, b9⟩ w
@[go_sem] theorem eql_div (a0 a1 a2 a3 a4 a5 a6 a7 a8 a9 b0 b1 b2 b3 b4 b5 b6 b7 b8 b9 : Int) (w : World) : (binOp .eql 40 (.agg #[.int .i64 a0, .int .i64 a1, .int .i64 a2, .int .i64 a3, .int .i64 a4, .int .i64 a5, .int .i64 a6, .int .i64 a7, .int .i64 a8, .int .i64 a9]) (.agg #[.int .i64 b0, .int .i64 b1, .int .i64 b2, .int .i64 b3, .int .i64 b4, .int .i64 b5, .int .i64 b6, .int .i64 b7, .int .i64 b8, .int .i64 b9])).run Tryd.prog w = .ok (.bool (Qd.eqb ⟨a0, a1, a2, a3, a4⟩ ⟨b0, b1, b2, b3, b4⟩ && Qd.eqb ⟨a5, a6, a7, a8, a9⟩ ⟨b5, b6, b7, b8, b9⟩)) w := eql_of_in _ _ _ _ w (eqIn_div 9996 ⟨a0, a1, a2, a3, a4⟩ ⟨a5, a6, a7, a8, a9⟩ ⟨b0, b1, b2, b3, b4⟩ ⟨b5, b6, b7, b8, b9⟩ w)
end Go.Proofs.YthajaabgcbjfkaaDoor

namespace Go.Proofs.YthajaabgcbjfkaaDoor
open Go.RowKit

/-- A matrix of three rows, and a denominator. -/
structure Rt where
  a : Int
  b : Int
  c : Int
  d : Int
  e : Int
  f : Int
  g : Int
  h : Int
  i : Int
  n : Int
def Rt.eqb (x y : Rt) : Bool := decide (x.a = y.a ∧ x.b = y.b ∧ x.c = y.c) && (decide (x.d = y.d ∧ x.e = y.e ∧ x.f = y.f) && (decide (x.g = y.g ∧ x.h = y.h ∧ x.i = y.i) && decide (x.n = y.n)))
theorem Rt.eqb_iff {x y : Rt} : x.eqb y = true ↔ x = y := by
  cases x; cases y; simp [Rt.eqb, and_assoc]

section
variable {P : Program}
theorem eqIn_arr3 (t e : TypeId) (hu : P.underlying t = some (.array 3 e)) (h3 : P.underlying e = some (.int .i64)) (s3 : ∀ w : World, Sem.run P (sizeOf e) w = .ok 1 w) (i3 : ∀ w : World, Sem.run P (isAgg e) w = .ok false w)
    (d : Nat) (a0 a1 a2 b0 b1 b2 : Int) (w : World) : (Op.equalIn (d + 2) t (.agg #[.int .i64 a0, .int .i64 a1, .int .i64 a2]) (.agg #[.int .i64 b0, .int .i64 b1, .int .i64 b2])).run P w = .ok (decide (a0 = b0 ∧ a1 = b1 ∧ a2 = b2)) w := by
  have p0 : ∀ (a0 a1 a2 : Int) (w : World), (part e #[.int .i64 a0, .int .i64 a1, .int .i64 a2] 0).run P w = .ok (.int .i64 a0) w := fun _ _ _ w => part_int e i3 _ 0 _ rfl w
  have p1 : ∀ (a0 a1 a2 : Int) (w : World), (part e #[.int .i64 a0, .int .i64 a1, .int .i64 a2] 1).run P w = .ok (.int .i64 a1) w := fun _ _ _ w => part_int e i3 _ 1 _ rfl w
  have p2 : ∀ (a0 a1 a2 : Int) (w : World), (part e #[.int .i64 a0, .int .i64 a1, .int .i64 a2] 2).run P w = .ok (.int .i64 a2) w := fun _ _ _ w => part_int e i3 _ 2 _ rfl w
  have q := eqIn_int e h3 d
  clear h3 i3
  unfold Op.equalIn
  simp only [Sem.run_bind, run_underlying hu, Result.andThen_ok, s3, Std.Legacy.Range.forIn_eq_forIn_range', Std.Legacy.Range.size]
  rw [show List.range' 0 ((3 - 0 + 1 - 1) / 1) 1 = [0, 1, 2] from rfl]
  simp only [List.forIn_cons, List.forIn_nil, Sem.run_bind, Nat.reduceMul, p0, q, Result.andThen_ok]
  rw [Bool.decide_and, Bool.decide_and]
  generalize hz0 : decide (a0 = b0) = r0
  cases r0
  · simp
  generalize hz1 : decide (a1 = b1) = r1
  cases r1
  · simp [Sem.run_bind, p1, q, hz1]
  generalize hz2 : decide (a2 = b2) = r2
  cases r2 <;> simp [Sem.run_bind, p1, p2, q, hz1, hz2]
theorem part_row (e : TypeId) (i3 : ∀ w : World, Sem.run P (isAgg e) w = .ok true w) (s3 : ∀ w : World, Sem.run P (sizeOf e) w = .ok 3 w) (xs : Array Value) (i : Nat) (w : World) :
    (part e xs i).run P w = .ok (.agg (xs.extract i (i + 3))) w := by
  simp [part, Sem.run_bind, i3, s3]
theorem eqIn_mat (t u _e : TypeId) (hu : P.underlying t = some (.array 3 u)) (su : ∀ w : World, Sem.run P (sizeOf u) w = .ok 3 w) (iu : ∀ w : World, Sem.run P (isAgg u) w = .ok true w)
    (d : Nat) (hrow : ∀ (a0 a1 a2 b0 b1 b2 : Int) (w : World), (Op.equalIn (d + 2) u (.agg #[.int .i64 a0, .int .i64 a1, .int .i64 a2]) (.agg #[.int .i64 b0, .int .i64 b1, .int .i64 b2])).run P w = .ok (decide (a0 = b0 ∧ a1 = b1 ∧ a2 = b2)) w)
    (x y : Rt) (w : World) : (Op.equalIn (d + 3) t (.agg #[.int .i64 x.a, .int .i64 x.b, .int .i64 x.c, .int .i64 x.d, .int .i64 x.e, .int .i64 x.f, .int .i64 x.g, .int .i64 x.h, .int .i64 x.i]) (.agg #[.int .i64 y.a, .int .i64 y.b, .int .i64 y.c, .int .i64 y.d, .int .i64 y.e, .int .i64 y.f, .int .i64 y.g, .int .i64 y.h, .int .i64 y.i])).run P w = .ok (decide (x.a = y.a ∧ x.b = y.b ∧ x.c = y.c) && (decide (x.d = y.d ∧ x.e = y.e ∧ x.f = y.f) && decide (x.g = y.g ∧ x.h = y.h ∧ x.i = y.i))) w := by
  have p0 : ∀ (x : Rt) (w : World), (part u #[.int .i64 x.a, .int .i64 x.b, .int .i64 x.c, .int .i64 x.d, .int .i64 x.e, .int .i64 x.f, .int .i64 x.g, .int .i64 x.h, .int .i64 x.i] 0).run P w = .ok (.agg #[.int .i64 x.a, .int .i64 x.b, .int .i64 x.c]) w := fun x w => part_row u iu su _ 0 w
  have p1 : ∀ (x : Rt) (w : World), (part u #[.int .i64 x.a, .int .i64 x.b, .int .i64 x.c, .int .i64 x.d, .int .i64 x.e, .int .i64 x.f, .int .i64 x.g, .int .i64 x.h, .int .i64 x.i] 3).run P w = .ok (.agg #[.int .i64 x.d, .int .i64 x.e, .int .i64 x.f]) w := fun x w => part_row u iu su _ 3 w
  have p2 : ∀ (x : Rt) (w : World), (part u #[.int .i64 x.a, .int .i64 x.b, .int .i64 x.c, .int .i64 x.d, .int .i64 x.e, .int .i64 x.f, .int .i64 x.g, .int .i64 x.h, .int .i64 x.i] 6).run P w = .ok (.agg #[.int .i64 x.g, .int .i64 x.h, .int .i64 x.i]) w := fun x w => part_row u iu su _ 6 w
  clear iu
  unfold Op.equalIn
  simp only [Sem.run_bind, run_underlying hu, Result.andThen_ok, su, Std.Legacy.Range.forIn_eq_forIn_range', Std.Legacy.Range.size]
  rw [show List.range' 0 ((3 - 0 + 1 - 1) / 1) 1 = [0, 1, 2] from rfl]
  simp only [List.forIn_cons, List.forIn_nil, Sem.run_bind, Nat.reduceMul, p0, hrow, Result.andThen_ok]
  generalize decide (x.a = y.a ∧ x.b = y.b ∧ x.c = y.c) = r0
  cases r0
  · simp
  generalize hz1 : decide (x.d = y.d ∧ x.e = y.e ∧ x.f = y.f) = r1
  cases r1
  · simp [Sem.run_bind, p1, hrow, hz1]
  generalize hz2 : decide (x.g = y.g ∧ x.h = y.h ∧ x.i = y.i) = r2
  cases r2 <;> simp [Sem.run_bind, p1, p2, hrow, hz1, hz2]
end

theorem eqIn_rot (d : Nat) (x y : Rt) (w : World) : (Op.equalIn (d + 4) 47 (.agg #[.int .i64 x.a, .int .i64 x.b, .int .i64 x.c, .int .i64 x.d, .int .i64 x.e, .int .i64 x.f, .int .i64 x.g, .int .i64 x.h, .int .i64 x.i, .int .i64 x.n]) (.agg #[.int .i64 y.a, .int .i64 y.b, .int .i64 y.c, .int .i64 y.d, .int .i64 y.e, .int .i64 y.f, .int .i64 y.g, .int .i64 y.h, .int .i64 y.i, .int .i64 y.n])).run Tryd.prog w = .ok (x.eqb y) w := by
  have hS : Tryd.prog.underlying 47 = some (.struct (Tryd.prog.fieldsOf 47)) := by kernel_rfl
  have hp : Tryd.prog.stoodInHeld 47 = false := by kernel_rfl
  have i66 := Tryd.isAgg45
  have s66 := Tryd.sizeOf45
  have h3 := Tryd.underlying3
  have s3 := Tryd.sizeOf3
  have i3 := Tryd.isAgg3
  have hm : ∀ (x y : Rt) (w : World), (Op.equalIn (d + 3) 45 (.agg #[.int .i64 x.a, .int .i64 x.b, .int .i64 x.c, .int .i64 x.d, .int .i64 x.e, .int .i64 x.f, .int .i64 x.g, .int .i64 x.h, .int .i64 x.i]) (.agg #[.int .i64 y.a, .int .i64 y.b, .int .i64 y.c, .int .i64 y.d, .int .i64 y.e, .int .i64 y.f, .int .i64 y.g, .int .i64 y.h, .int .i64 y.i])).run Tryd.prog w = .ok (decide (x.a = y.a ∧ x.b = y.b ∧ x.c = y.c) && (decide (x.d = y.d ∧ x.e = y.e ∧ x.f = y.f) && decide (x.g = y.g ∧ x.h = y.h ∧ x.i = y.i))) w :=
    eqIn_mat 45 44 3 Tryd.underlying45 Tryd.sizeOf44 Tryd.isAgg44 d (eqIn_arr3 44 3 Tryd.underlying44 h3 s3 i3 d)
  rw [run_equalIn_agg w (d + 3) 47 _ _ hS hp]
  have h1 := hm x y
  clear hm
  have e : x.eqb y = ((decide (x.a = y.a ∧ x.b = y.b ∧ x.c = y.c) && (decide (x.d = y.d ∧ x.e = y.e ∧ x.f = y.f) && decide (x.g = y.g ∧ x.h = y.h ∧ x.i = y.i))) && decide (x.n = y.n)) := by
    unfold Rt.eqb; rw [Bool.and_assoc, Bool.and_assoc]
  rw [e]
  clear e
  generalize (decide (x.a = y.a ∧ x.b = y.b ∧ x.c = y.c) && (decide (x.d = y.d ∧ x.e = y.e ∧ x.f = y.f) && decide (x.g = y.g ∧ x.h = y.h ∧ x.i = y.i))) = r at *
  simp only [Program.fieldsOf, Tryd.underlying47]
  go_simp
  by_cases hn : x.n = y.n <;> cases r <;> simp [hn]
@[go_sem] theorem guard_rot (op : BinOp) (x y : Operand) (xs ys : Array Value) (w : World) : (eqGuard op 47 x y (.agg xs) (.agg ys)).run Tryd.prog w = .ok () w := run_eqGuard_agg w op _ x y xs ys (by kernel_rfl)
@[go_sem] theorem eqI_rot (a0 a1 a2 a3 a4 a5 a6 a7 a8 a9 b0 b1 b2 b3 b4 b5 b6 b7 b8 b9 : Int) (w : World) : (Op.equalIn 10000 47 (.agg #[.int .i64 a0, .int .i64 a1, .int .i64 a2, .int .i64 a3, .int .i64 a4, .int .i64 a5, .int .i64 a6, .int .i64 a7, .int .i64 a8, .int .i64 a9]) (.agg #[.int .i64 b0, .int .i64 b1, .int .i64 b2, .int .i64 b3, .int .i64 b4, .int .i64 b5, .int .i64 b6, .int .i64 b7, .int .i64 b8, .int .i64 b9])).run Tryd.prog w = .ok (Rt.eqb ⟨a0, a1, a2, a3, a4, a5, a6, a7, a8, a9⟩ ⟨b0, b1, b2, b3, b4, b5, b6, b7, b8, b9⟩) w := eqIn_rot 9996 ⟨a0, a1, a2, a3, a4, a5, a6, a7, a8, a9⟩ ⟨b0, b1, b2, b3, b4, b5, b6, b7, b8, b9⟩ w
@[go_sem] theorem eql_rot (a0 a1 a2 a3 a4 a5 a6 a7 a8 a9 b0 b1 b2 b3 b4 b5 b6 b7 b8 b9 : Int) (w : World) : (binOp .eql 47 (.agg #[.int .i64 a0, .int .i64 a1, .int .i64 a2, .int .i64 a3, .int .i64 a4, .int .i64 a5, .int .i64 a6, .int .i64 a7, .int .i64 a8, .int .i64 a9]) (.agg #[.int .i64 b0, .int .i64 b1, .int .i64 b2, .int .i64 b3, .int .i64 b4, .int .i64 b5, .int .i64 b6, .int .i64 b7, .int .i64 b8, .int .i64 b9])).run Tryd.prog w = .ok (.bool (Rt.eqb ⟨a0, a1, a2, a3, a4, a5, a6, a7, a8, a9⟩ ⟨b0, b1, b2, b3, b4, b5, b6, b7, b8, b9⟩)) w := eql_of_in _ _ _ _ w (eqIn_rot 9996 ⟨a0, a1, a2, a3, a4, a5, a6, a7, a8, a9⟩ ⟨b0, b1, b2, b3, b4, b5, b6, b7, b8, b9⟩ w)
end Go.Proofs.YthajaabgcbjfkaaDoor
