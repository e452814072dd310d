/- Contract: slices.Compact at a pair; append that leaves other rows alone. Contract: ofNorm. -/
import Derived.Test.YthajaabgcbjfkaaDoorN1
import Derived.Test.YthajaabgcbjfkaaDoorO1
namespace Go.Proofs.YthajaabgcbjfkaaDoor
open Go.RowKit Go.Sort Go.Shelf Go.Lib

@[go_sem] theorem eqJ_quad (a0 a1 a2 a3 b0 b1 b2 b3 : Int) (w : World) : (Op.equalIn 9999 54 (.agg #[.int .i64 a0, .int .i64 a1, .int .i64 a2, .int .i64 a3]) (.agg #[.int .i64 b0, .int .i64 b1, .int .i64 b2, .int .i64 b3])).run Tryd.prog w = .ok (Qt.eqb ⟨a0, a1, a2, a3⟩ ⟨b0, b1, b2, b3⟩) w := eqIn_quad 9997 ⟨a0, a1, a2, a3⟩ ⟨b0, b1, b2, b3⟩ w
/-- What is left of -z, z. -/
def pairZ (z : Nat) : List Int := if z = 0 then [0] else [-(z : Int), (z : Int)]
def cellsZ (z : Nat) : Array Value := if z = 0 then #[.int .i64 0, .int .i64 0] else #[.int .i64 (-(z : Int)), .int .i64 ((z : Int))]
theorem compact_pair (z : Nat) : Lib.compact [-(z : Int), (z : Int)] = pairZ z ∧ (Lib.compact [-(z : Int), (z : Int)] ++ List.replicate (2 - (Lib.compact [-(z : Int), (z : Int)]).length) 0).map (Value.int .i64) = (cellsZ z).toList := by
  by_cases h : z = 0
  · subst h; exact ⟨by decide, rfl⟩
  · have h1 : (z : Int) ≠ -(z : Int) := by omega
    have e : Lib.compact [-(z : Int), (z : Int)] = [-(z : Int), (z : Int)] := by
      simp [Lib.compact, compactUpTo, keeps, List.range_succ, h1]
    rw [e]
    simp [pairZ, cellsZ, h]
theorem heap_putRow (w : World) (q blk : Nat) (cs : Array Value) (t : TypeId) (d : Array Int) (h : w.heap[blk]? = some (.cells cs t (0, 0))) (hs : cs.size = d.size) :
    (putRow (Value.int .i64) (Sort.ahead w q) blk 0 d).heap[blk]? = some (.cells (d.map (Value.int .i64)) t (0, 0)) := by
  have hb : blk < w.heap.size := (Array.getElem?_eq_some_iff.1 h).1
  have e : (putRow (Value.int .i64) (Sort.ahead w q) blk 0 d).heap[blk]? = some (.cells (putCells (Value.int .i64) 0 d cs) t (0, 0)) := by
    simp [putRow, mapBlock, Sort.ahead, Array.getElem?_modify, h, onCells]
  rw [e]
  congr 2
  apply Array.ext
  · simp [putCells, hs]
  · intro i h1 h2
    simp only [putCells, Array.getElem_mapIdx, Nat.zero_le, Nat.zero_add, true_and, Nat.sub_zero, Array.getElem_map]
    have hi : i < d.size := by simpa using h2
    rw [if_pos hi, getElem!_pos d i hi]
theorem compact2_any (z : Nat) (W : World) {m : Nat} (hm : m = W.heap.size) :
    Calls Tryd.prog 52 #[.slice (some ⟨m, 0, none⟩) 2 2] (W.alloc (.cells #[.int .i64 (-(z : Int)), .int .i64 ((z : Int))] 3)) fun e w' =>
      e = .returned (.slice (some ⟨m, 0, none⟩) (pairZ z).length 2) ∧ w'.heap[m]? = some (.cells (cellsZ z) 3 (0, 0)) ∧ Below W.heap.size W w' := by
  subst hm
  have hH : Holds (Value.int .i64) (W.alloc (.cells #[.int .i64 (-(z : Int)), .int .i64 ((z : Int))] 3)) W.heap.size 0 [-(z : Int), (z : Int)].toArray := by
    intro j hj
    have hj' : j < 2 := by simpa using hj
    rw [Nat.zero_add]
    refine ⟨?_, frozen_of_row _ _ _ _ _ (heap_alloc_new W _)⟩
    rw [cell_of_row _ _ _ _ _ _ (heap_alloc_new W _)]
    rcases two j hj' with rfl | rfl <;> rfl
  have h := Any.slices_Compact_int Tryd.laysNm220 W.heap.size 0 2 [-(z : Int), (z : Int)] _ hH (by simp) (by simp)
  refine h.mono ?_
  obtain ⟨c1, c2⟩ := compact_pair z
  rintro e w' ⟨rfl, q, rfl⟩
  refine ⟨by rw [c1], ?_, ?_⟩
  · have hsz : (Lib.compact [-(z : Int), (z : Int)] ++ List.replicate ([-(z : Int), (z : Int)].length - (Lib.compact [-(z : Int), (z : Int)]).length) 0).length = 2 := by
      have := congrArg List.length c2
      simp only [List.length_map, Array.length_toList] at this
      rw [show [-(z : Int), (z : Int)].length = 2 from rfl, this]
      unfold cellsZ; split <;> rfl
    rw [heap_putRow _ q _ _ _ _ (heap_alloc_new W _) (by simp only [List.size_toArray]; rw [hsz]; rfl)]
    congr 2
    apply Array.toList_inj.1
    rw [← c2]
    simp
  · refine ⟨rfl, rfl, rfl, by simp, fun k hk => ?_⟩
    have hk' : W.heap.size ≠ k := by omega
    simp only [putRow, mapBlock, Sort.ahead, World.alloc]
    rw [Array.getElem?_modify, if_neg hk', Array.getElem?_push_lt hk, Array.getElem?_eq_getElem hk]

/-- append of one Hurwitz quaternion; rows of another type stay as they are. -/
theorem append_hur3 {w0 w : World} {base : Nat} {v : Value} {l : List Qt} (hown : OwnH w base v l) (hB : Below base w0 w) (hbase : base ≤ w.heap.size) (q : Qt) (hlen : l.length < 1000000)
    {ops : Array Oper} {rest : List Oper} {o : Oper} {a : Act} {Q : Exit → Act → World → Prop} (hgd : o.guard = none) (s x : Operand)
    (ho : o.op = .call { callee := .builtin .append, args := #[s, x], argTypes := #[75, 75] })
    (hs : a.eval s = v) {m : Nat} (hx : a.eval x = .slice (some ⟨m, 0, none⟩) 1 1) (hm : m = w.heap.size)
    (h : ∀ v' w', OwnH w' base v' (l ++ [q]) → Below base w0 w' → base ≤ w'.heap.size → (∀ (k : Nat) (cs : Array Value) (t : TypeId) (f : Nat × Nat), t ≠ 80 → w.heap[k]? = some (Obj.cells cs t f) → w'.heap[k]? = some (Obj.cells cs t f)) → wpList Tryd.prog ops Q rest (a.put o.dst v') w') : wpList Tryd.prog ops Q (o :: rest) a (w.alloc (.cells #[.int .i64 q.w, .int .i64 q.x, .int .i64 q.y, .int .i64 q.z] 80)) := by
  subst hm
  obtain ⟨i0, hi0, hz0, hz1, hz2⟩ := info_parts hurInfo
  refine wpList_append_own _ hgd s x 75 ho base 80 i0 _ 4 32 Tryd.underlying75 hi0 hz0 hz1 hz2 rfl (by omega) v l.length (flatQ l) hs (hown.alloc _)
    ⟨w.heap.size, 0, none⟩ 1 1 (encQ q) hx rfl ?_ (encQ_one q) (by simp only [maxLen]; omega) (by omega) (by simp; omega) ?_
  · intro j u hu
    have : (⟨w.heap.size, 0, none⟩ : Addr).add j = ⟨w.heap.size, j, none⟩ := by unfold Addr.add; split <;> simp_all
    rw [this, cell_of_row _ _ _ _ _ _ (heap_alloc_new w _)]
    simpa [encQ] using hu
  · intro v' w' h1 h2 _
    have hsz : w.heap.size ≤ w'.heap.size := Nat.le_trans (by simp) h2.size
    refine h v' w' (by unfold OwnH; rw [flatQ_append]; simpa [flatQ] using h1) ((hB.alloc hbase _).grown h2 (by simp; omega) ?_) (by omega) ?_
    · intro k hk
      exact (hown.lt k hk).1
    · intro k cs t f ht hk
      have hkl : k < w.heap.size := (Array.getElem?_eq_some_iff.1 hk).1
      rw [h2.block k (by simp; omega) ?_]
      · simp only [World.alloc]; rw [Array.getElem?_push_lt hkl]; rw [← hk, Array.getElem?_eq_getElem hkl]
      · intro he
        rcases hown.2 with ⟨e, _⟩ | ⟨g', cap, cur, e, _, hh, _⟩
        · rw [e] at he; cases he
        · rw [e] at he
          have : k = g' := by simpa [Value.ownBlock] using he
          subst this
          rw [hh] at hk
          injection hk with hk; injection hk with _ hk
          exact ht hk.symm
end Go.Proofs.YthajaabgcbjfkaaDoor

namespace Go.Proofs.YthajaabgcbjfkaaDoor
open Go.RowKit

/-- What the loops keep. -/
def HInv (B : Nat) (w0 : World) (v : Value) (l : List Qt) (w : World) : Prop := OwnH w B v l ∧ Below B w0 w ∧ B ≤ w.heap.size
/-- The part of the candidates up to t, canonical ones alone. -/
def keepC (l : List Qt) (t : Nat) : List Qt := (l.take t).filter fun h => decide (canon h = h)
theorem keepC_yes {l : List Qt} {t : Nat} {q : Qt} (h : l[t]? = some q) (hc : canon q = q) : keepC l (t + 1) = keepC l t ++ [q] := by
  unfold keepC; rw [take_snoc' h, List.filter_append]; simp [hc]
theorem keepC_no {l : List Qt} {t : Nat} {q : Qt} (h : l[t]? = some q) (hc : ¬ canon q = q) : keepC l (t + 1) = keepC l t := by
  unfold keepC; rw [take_snoc' h, List.filter_append]; simp [hc]
theorem keepC_all (l : List Qt) : keepC l l.length = l.filter fun h => decide (canon h = h) := by unfold keepC; rw [List.take_length]
theorem keepC_len (l : List Qt) (t : Nat) (h : l.length ≤ 2) : (keepC l t).length ≤ 2 := by
  unfold keepC
  exact Nat.le_trans (List.length_filter_le _ _) (Nat.le_trans (List.length_take_le' _ _) h)
theorem candS_get {w x y : Int} {z t : Nat} {s : Int} (h : (pairZ z)[t]? = some s) : (candS w x y z)[t]? = some ⟨w, x, y, s⟩ := by
  unfold pairZ at h; unfold candS
  split at h <;> rename_i hz
  · rw [if_pos hz]
    match t with
    | 0 => simp at h; subst h; rfl
    | t + 1 => simp at h
  · rw [if_neg hz]
    match t with
    | 0 => simp at h; subst h; rfl
    | 1 => simp at h; subst h; rfl
    | t + 2 => simp at h
theorem candS_len (w x y : Int) (z : Nat) : (candS w x y z).length = (pairZ z).length := by unfold candS pairZ; split <;> rfl
theorem pairZ_len (z : Nat) : 1 ≤ (pairZ z).length ∧ (pairZ z).length ≤ 2 := by unfold pairZ; split <;> simp
theorem cellsZ_get {z t : Nat} {s : Int} (h : (pairZ z)[t]? = some s) : (cellsZ z)[t]? = some (.int .i64 s) := by
  unfold pairZ at h; unfold cellsZ
  split at h <;> rename_i hz
  · rw [if_pos hz]
    match t with
    | 0 => simp at h; subst h; rfl
    | t + 1 => simp at h
  · rw [if_neg hz]
    match t with
    | 0 => simp at h; subst h; rfl
    | 1 => simp at h; subst h; rfl
    | t + 2 => simp at h
theorem rowY_of {n w x y : Int} {z : Nat} (h0 : ¬ restN n w x y < 0) (h1 : (w - x) % 2 = 0) (h2 : (w - y) % 2 = 0) (hz : z = zs (restN n w x y).toNat) (h3 : (z : Int) * z = restN n w x y) (h4 : (w - z) % 2 = 0) : rowY n w x y = keepC (candS w x y z) (pairZ z).length := by
  unfold rowY
  rw [if_neg (by omega), ← hz, if_neg (by omega), ← candS_len w x y z, keepC_all]
theorem rowY_no1 {n w x y : Int} (h : restN n w x y < 0 ∨ (w - x) % 2 ≠ 0 ∨ (w - y) % 2 ≠ 0) : rowY n w x y = [] := by unfold rowY; rw [if_pos h]
theorem rowY_no2 {n w x y : Int} {z : Nat} (hz : z = zs (restN n w x y).toNat) (h : (z : Int) * z ≠ restN n w x y ∨ (w - z) % 2 ≠ 0) : rowY n w x y = [] := by
  unfold rowY
  split
  · rfl
  · rw [← hz, if_pos h]
theorem zs_int {r : Int} {k : Nat} (h0 : 0 ≤ r) (h1 : ¬ ((k : Int) * k < r)) (h2 : ∀ j : Nat, j < k → (j : Int) * j < r) : k = zs r.toNat := by
  refine zs_eq ?_ fun j hj => ?_
  · have : ((k * k : Nat) : Int) = (k : Int) * k := Int.natCast_mul ..
    omega
  · have : ((j * j : Nat) : Int) = (j : Int) * j := Int.natCast_mul ..
    have := h2 j hj
    omega
theorem up_int {n k : Nat} (h1 : ¬ ((k : Int) * k ≤ 4 * n)) (h2 : ∀ j : Nat, j < k → (j : Int) * j ≤ 4 * n) : k = up (4 * n) := by
  refine up_eq ?_ fun j hj => ?_
  · have : ((k * k : Nat) : Int) = (k : Int) * k := Int.natCast_mul ..
    omega
  · have : ((j * j : Nat) : Int) = (j : Int) * j := Int.natCast_mul ..
    have := h2 j hj
    omega
theorem sq_bd {x B : Int} (_hB : 0 ≤ B) (h : -B ≤ x ∧ x ≤ B) : 0 ≤ x * x ∧ x * x ≤ B * B := by
  refine ⟨Qt.sq_nonneg x, ?_⟩
  have : 0 ≤ (B - x) * (B + x) := Int.mul_nonneg (by omega) (by omega)
  grind

set_option maxRecDepth 100000 in
set_option maxHeartbeats 8000000 in
theorem ofNorm_any (n : Nat) (h1 : 1 ≤ n) (h2 : n ≤ 500) (w : World) :
    Calls Tryd.prog 33 #[.int .i64 ((n : Int))] w fun e w' => ∃ v, e = .returned v ∧ OwnH w' w.heap.size v (ofNormC n) ∧ Below w.heap.size w w' := by
  go_enter Tryd.func33, Tryd.ntmps33
  go_wp2
  go_loop [4] (fun m => ∃ k : Nat, m = .int .i64 k ∧ k ≤ 45 ∧ Hid (∀ j : Nat, j < k → (j : Int) * j ≤ 4 * n)) (fun m => 46 - (intOf m).toNat)
  case atStart => exact ⟨0, rfl, by omega, fun j hj => by omega⟩
  case round =>
    obtain ⟨M, rfl, hM, HM⟩ := hrel
    obtain ⟨s0, s1⟩ := sq_bd (x := (M : Int)) (B := 45) (by omega) ⟨by omega, by omega⟩
    by_cases hlt : (M : Int) * M ≤ 4 * n
    · have hM2 : M < 45 := by
        apply Nat.not_le.1; intro hc
        have : M = 45 := by omega
        subst this; omega
      go_wp2
      go_round
      case rel => exact ⟨M + 1, by go_num, by omega, fun j hj => by
        by_cases e : j = M
        · subst e; exact hlt
        · exact HM.out j (by omega)⟩
      case measure => simp [intOf]; omega
    · have hup := Lib.hid (up_int hlt HM.out)
      have hM1 : 1 ≤ M := by
        apply Nat.not_lt.1; intro hc
        have : M = 0 := by omega
        subst this; omega
      clear HM
      go_wp2
      clear hlt s0 s1
      go_loopw [3, 5] (fun v i wr => ∃ W : Nat, 1 ≤ W ∧ W ≤ M ∧ i = .int .i64 W ∧ HInv w.heap.size w v (ofNormK n (W - 1)) wr) (fun _ i _ => 46 - (intOf i).toNat)
      case atStart => exact ⟨1, by omega, by omega, rfl, OwnH.nil _ _, Below.refl _ _, Nat.le_refl _⟩
      case round =>
        obtain ⟨W, hW1, hW2, rfl, hinv⟩ := hrel
        obtain ⟨wo, rfl⟩ : ∃ wo : World, wo = wr := ⟨_, rfl⟩
        have HI := Lib.hid hinv
        clear hinv
        by_cases hlt : W < M
        · obtain ⟨s0, s1⟩ := sq_bd (x := (W : Int)) (B := 44) (by omega) ⟨by omega, by omega⟩
          have hww : W - 1 + 1 = W := by omega
          have hsn := ofNormK_snoc n (W - 1)
          rw [hww] at hsn
          have hsq : ((W * W : Nat) : Int) = (W : Int) * W := Int.natCast_mul ..
          by_cases hsm : (W : Int) * W < n
          · have HS := Lib.hid hsn
            have HQ := Lib.hid hsq
            clear hsn hsq hww
            go_wp2
            go_roundw
            case rel =>
              refine ⟨W + 1, by omega, by omega, by go_num, ?_⟩
              rw [Nat.add_sub_cancel, HS.out, if_pos (by have := HQ.out; omega), List.append_nil]
              exact HI.out
            case measure => simp [intOf]; omega
          · have hP : (ofNormK n (W - 1)).length ≤ 681206 := by have := ofNormK_len n (W - 1) (by omega); omega
            rw [if_neg (by omega)] at hsn
            have HS := Lib.hid hsn
            clear hsn hsq hww
            generalize hPP : ofNormK n (W - 1) = P at *
            clear hPP
            go_wp2
            clear hsm
            go_loopw [3, 6] (fun v i wr => ∃ a : Nat, a ≤ 2 * W + 1 ∧ i = .int .i64 (-(W : Int) + a) ∧ HInv w.heap.size w v (P ++ rowW n W a) wr) (fun _ i _ => (46 - intOf i).toNat)
            case atStart => exact ⟨0, by omega, by simp, by simpa [rowW] using HI.out⟩
            case round =>
              clear HI wo
              obtain ⟨a, ha, rfl, hinv⟩ := hrel
              obtain ⟨wo, rfl⟩ : ∃ wo : World, wo = wr := ⟨_, rfl⟩
              have HI := Lib.hid hinv
              clear hinv
              generalize hX : -(W : Int) + (a : Int) = X
              have hXa : -(W : Int) ≤ X := by omega
              have hXb : X ≤ (W : Int) + 1 := by omega
              have HX := Lib.hid hX
              by_cases hltX : X ≤ W
              · have hP2 : (P ++ rowW n W a).length ≤ 697048 := by
                  rw [List.length_append]
                  have := rowW_len n W a
                  have h3 : a * ((2 * W + 1) * 2) ≤ 89 * (89 * 2) := Nat.mul_le_mul (by omega) (Nat.mul_le_mul_right 2 (by omega))
                  omega
                have hsn := rowW_snoc n W a
                rw [hX] at hsn
                have HS2 := Lib.hid hsn
                clear hsn hX
                generalize hPP : P ++ rowW n W a = P2 at *
                have HP2 := Lib.hid hPP
                clear hPP
                obtain ⟨x0, x1⟩ := sq_bd (x := X) (B := 44) (by omega) ⟨by omega, by omega⟩
                go_wp2
                go_loopw [3, 7] (fun v j wr => ∃ b : Nat, b ≤ 2 * W + 1 ∧ j = .int .i64 (-(W : Int) + b) ∧ HInv w.heap.size w v (P2 ++ rowX n W X b) wr) (fun _ j _ => (46 - intOf j).toNat)
                case atStart => exact ⟨0, by omega, by simp, by simpa [rowX] using HI.out⟩
                case round =>
                  clear HI wo
                  obtain ⟨b, hb, rfl, hinv⟩ := hrel
                  obtain ⟨wo, rfl⟩ : ∃ wo : World, wo = wr := ⟨_, rfl⟩
                  have HI := Lib.hid hinv
                  clear hinv
                  generalize hY : -(W : Int) + (b : Int) = Y
                  have hYa : -(W : Int) ≤ Y := by omega
                  have hYb : Y ≤ (W : Int) + 1 := by omega
                  have HY := Lib.hid hY
                  by_cases hltY : Y ≤ W
                  · have hP3 : (P2 ++ rowX n W X b).length ≤ 697226 := by
                      rw [List.length_append]
                      have := rowX_len n W X b
                      omega
                    have hsn := rowX_snoc n W X b
                    rw [hY] at hsn
                    have hb2 : b < 2 * W + 1 := by omega
                    have HS3 := Lib.hid hsn
                    clear hsn hY
                    generalize hPP : P2 ++ rowX n W X b = P3 at *
                    have HP3 := Lib.hid hPP
                    clear hPP
                    obtain ⟨y0, y1⟩ := sq_bd (x := Y) (B := 44) (by omega) ⟨by omega, by omega⟩
                    have eR : 4 * (n : Int) - (W : Int) * W - X * X - Y * Y = restN n W X Y := rfl
                    have hRa : -6000 ≤ restN n W X Y := by omega
                    have hRb : restN n W X Y ≤ 2000 := by omega
                    have HRR : Hid (restN n W X Y = restN n W X Y) := rfl
                    generalize hRR : restN n W X Y = R at eR hRa hRb
                    have HR := Lib.hid hRR
                    clear hRR HRR
                    have done0 : ∀ (u : Value) (wz : World), rowY n W X Y = [] → HInv w.heap.size w u P3 wz → ∃ b' : Nat, b' ≤ 2 * W + 1 ∧ Value.int .i64 (Y + 1) = .int .i64 (-(W : Int) + b') ∧ HInv w.heap.size w u (P2 ++ rowX n W X b') wz := fun u wz he hh => by
                      have hy := HY.out
                      refine ⟨b + 1, by omega, by congr 1; omega, ?_⟩
                      rw [HS3.out, ← List.append_assoc, HP3.out, he, List.append_nil]
                      exact hh
                    have D0 := Lib.hid done0
                    clear done0
                    have tm : ∀ u : Int, u % 2 = 0 → (u % 2 != 0) = false ∧ (u.tmod 2 != 0) = false := fun u hu => ⟨by simpa using hu, by rw [bne_eq_false_iff_eq, tmod2]; exact hu⟩
                    have tn : ∀ u : Int, ¬ u % 2 = 0 → (u % 2 != 0) = true ∧ (u.tmod 2 != 0) = true := fun u hu => ⟨by simpa using hu, by rw [bne_iff_ne, ne_eq, tmod2]; exact hu⟩
                    by_cases c1 : R < 0
                    · clear tm tn
                      go_wp2
                      go_roundw
                      case rel => exact D0.out _ _ (rowY_no1 (.inl (by have := HR.out; omega))) HI.out
                      case measure => simp [intOf]; omega
                    by_cases c2 : ((W : Int) - X) % 2 = 0
                    rotate_left
                    · obtain ⟨t1, t2⟩ := tn _ c2
                      have C2 := Lib.hid c2
                      clear tm tn c2
                      go_wp2
                      go_roundw
                      case rel => exact D0.out _ _ (rowY_no1 (.inr (.inl C2.out))) HI.out
                      case measure => simp [intOf]; omega
                    by_cases c3 : ((W : Int) - Y) % 2 = 0
                    rotate_left
                    · obtain ⟨t1, t2⟩ := tm _ c2
                      obtain ⟨t3, t4⟩ := tn _ c3
                      have C2 := Lib.hid c2
                      have C3 := Lib.hid c3
                      clear tm tn c2 c3
                      go_wp2
                      go_roundw
                      case rel => exact D0.out _ _ (rowY_no1 (.inr (.inr C3.out))) HI.out
                      case measure => simp [intOf]; omega
                    obtain ⟨t1, t2⟩ := tm _ c2
                    obtain ⟨t3, t4⟩ := tm _ c3
                    have C2 := Lib.hid c2
                    have C3 := Lib.hid c3
                    clear c2 c3
                    have TM := Lib.hid tm
                    have TN := Lib.hid tn
                    clear tm tn
                    go_wp2
                    clear eR x0 x1 y0 y1 t1 t2 t3 t4
                    go_loop [9] (fun z => ∃ k : Nat, z = .int .i64 k ∧ k ≤ 45 ∧ Hid (∀ j : Nat, j < k → (j : Int) * j < R)) (fun z => 46 - (intOf z).toNat)
                    case atStart => exact ⟨0, rfl, by omega, fun j hj => by omega⟩
                    case round =>
                      obtain ⟨Z, rfl, hZ, HZ⟩ := hrel
                      obtain ⟨z0, z1⟩ := sq_bd (x := (Z : Int)) (B := 45) (by omega) ⟨by omega, by omega⟩
                      by_cases hzl : (Z : Int) * Z < R
                      · have hZ2 : Z < 45 := by
                          apply Nat.not_le.1; intro hc
                          have : Z = 45 := by omega
                          subst this; omega
                        go_wp2
                        go_round
                        case rel => exact ⟨Z + 1, by go_num, by omega, fun j hj => by
                          by_cases e : j = Z
                          · subst e; exact hzl
                          · exact HZ.out j (by omega)⟩
                        case measure => simp [intOf]; omega
                      · have hz := Lib.hid (zs_int (by omega) hzl HZ.out)
                        rw [← HR.out] at hz
                        clear HZ
                        by_cases c4 : (Z : Int) * Z = R
                        rotate_left
                        · have t1 : ((Z : Int) * Z != R) = true := by simpa using c4
                          have C4 := Lib.hid c4
                          clear c4
                          go_wp2
                          go_roundw
                          case rel => exact D0.out _ _ (rowY_no2 hz.out (.inl (by rw [HR.out]; exact C4.out))) HI.out
                          case measure => simp [intOf]; omega
                        have t1 : ((Z : Int) * Z != R) = false := by simpa using c4
                        by_cases c5 : ((W : Int) - Z) % 2 = 0
                        rotate_left
                        · obtain ⟨t3, t4⟩ := TN.out _ c5
                          have C4 := Lib.hid c4
                          have C5 := Lib.hid c5
                          clear c4 c5
                          go_wp2
                          go_roundw
                          case rel => exact D0.out _ _ (rowY_no2 hz.out (.inr C5.out)) HI.out
                          case measure => simp [intOf]; omega
                        obtain ⟨t3, t4⟩ := TM.out _ c5
                        have hrow := rowY_of (by rw [HR.out]; omega) C2.out C3.out hz.out (by rw [HR.out]; exact c4) c5
                        have HROW := Lib.hid hrow
                        have C4 := Lib.hid c4
                        clear c4 c5 TM TN hrow
                        go_wp2_with (go_at_call 52; refine (compact2_any Z wo (by simp)).mono ?_; rintro e w1 ⟨rfl, hm, hb1⟩)
                        have hI1 : HInv w.heap.size w u3 P3 w1 := by
                          obtain ⟨i1, i2, i3⟩ := HI.out
                          refine ⟨?_, i2.trans (hb1.mono i3), Nat.le_trans i3 hb1.size⟩
                          obtain ⟨gq, rfl⟩ := more_of_below hb1
                          exact i1.mor gq
                        have HI1 := Lib.hid hI1
                        have HM := Lib.hid hm
                        have hml : wo.heap.size < w1.heap.size := (Array.getElem?_eq_some_iff.1 hm).1
                        have hmb : w.heap.size ≤ wo.heap.size := HI.out.2.2
                        obtain ⟨hl1, hl2⟩ := pairZ_len Z
                        generalize hlen : (pairZ Z).length = len at *
                        have HLEN := Lib.hid hlen
                        generalize hmm : wo.heap.size = m at *
                        clear hI1 hm hlen HI hb1 hmm t1 t3 t4 z0 z1 hzl
                        go_loopw [3, 100] (fun v t wr => ∃ s : Nat, s ≤ len ∧ t = .int .i64 s ∧ HInv w.heap.size w v (P3 ++ keepC (candS W X Y Z) s) wr ∧ m < wr.heap.size ∧ Hid (wr.heap[m]? = some (.cells (cellsZ Z) 3 (0, 0)))) (fun _ t _ => len - (intOf t).toNat)
                        case atStart => exact ⟨0, by omega, rfl, by simpa [keepC] using HI1.out, hml, HM.out⟩
                        case round =>
                          clear HI1 HM hml
                          obtain ⟨s, hs, rfl, hinv, hml, HM⟩ := hrel
                          obtain ⟨wq, rfl⟩ : ∃ wq : World, wq = wr := ⟨_, rfl⟩
                          have HI := Lib.hid hinv
                          clear hinv
                          by_cases hsl : s < len
                          · obtain ⟨sv, hsv⟩ : ∃ sv, (pairZ Z)[s]? = some sv := ⟨(pairZ Z)[s]'(by rw [HLEN.out]; exact hsl), List.getElem?_eq_getElem _⟩
                            have hcell : wq.cell? ⟨m, s, none⟩ = some (.int .i64 sv) := by
                              rw [cell_of_row _ _ _ _ _ _ HM.out]; exact cellsZ_get hsv
                            have hcand := candS_get (w := (W : Int)) (x := X) (y := Y) hsv
                            have hsq : sv * sv = (Z : Int) * Z := by
                              unfold pairZ at hsv
                              split at hsv
                              · rename_i hz0
                                have hm1 := List.mem_of_getElem? hsv
                                simp only [List.mem_singleton] at hm1
                                subst hm1; subst hz0; rfl
                              · have hm1 := List.mem_of_getElem? hsv
                                simp only [List.mem_cons, List.not_mem_nil, or_false] at hm1
                                rcases hm1 with rfl | rfl
                                · rw [Int.neg_mul_neg]
                                · rfl
                            have hnrm : (⟨W, X, Y, sv⟩ : Qt).nrm ≤ 4000000000000 := by
                              have h3 := C4.out
                              have h4 := HR.out
                              unfold restN at h4
                              simp only [Qt.nrm]
                              omega
                            have hpl : (P3 ++ keepC (candS W X Y Z) s).length < 1000000 := by
                              rw [List.length_append]
                              have := keepC_len (candS W X Y Z) s (by rw [candS_len, HLEN.out]; exact hl2)
                              omega
                            have CAN := Lib.hid (canonical_hz ⟨W, X, Y, sv⟩ hnrm)
                            have HCAND := Lib.hid hcand
                            clear hsq hsv hcand hnrm
                            generalize hC : canon ⟨W, X, Y, sv⟩ = C at *
                            have HC := Lib.hid hC
                            clear hC
                            by_cases hc : C = ⟨W, X, Y, sv⟩
                            · have hE : Qt.eqb ⟨C.w, C.x, C.y, C.z⟩ ⟨W, X, Y, sv⟩ = true := Qt.eqb_iff.2 hc
                              have HE := Lib.hid hc
                              clear hc
                              go_wp2_with fail
                              (refine wp_region_quiet (C := Ext _) (by kernel_rfl) (by kernel_rfl) (Ext.start _) ?_; simp only []; (repeat (refine wpQuiet_step (fun K hK => ?_); go_simp; (try go_bits); apply Exists.intro; refine ⟨fun w' hw' => ?_, hK _ ?_⟩; (focus (first | with_reducible exact rfl | (go_at_call 53; (with_reducible exact Ext.call hw' (CAN.out _))) | (obtain ⟨gx, rfl⟩ := more_of_below (Ext.below hw'); go_simp; exact rfl))); clear hK K)); refine wpQuiet_nil ?_; intro w5 hw5; have hb5 := Ext.below hw5; clear hw5; obtain ⟨g5, rfl⟩ := more_of_below hb5; clear hb5)
                              go_wp2_with (at_builtin; go_must (refine append_hur3 ((HI.out.1.alloc _).mor _) (w0 := w) (by have hB := HI.out.2.1; (repeat (first | with_reducible assumption | with_reducible exact Below.refl _ _ | with_reducible refine Below.drewN ?_ _ | with_reducible refine Below.drew ?_ | with_reducible refine Below.alloc ?_ (by first | omega | (simp; done) | (simp; omega)) _ | with_reducible refine Below.setCell ?_ (by first | omega | (simp; done) | (simp; omega)) _ | with_reducible refine below_more _ _ ?_ (by first | omega | (simp; done) | (simp; omega))))) (by have := HI.out.2.2; simp; omega) ⟨W, X, Y, sv⟩ hpl rfl (.tmp 114) (.tmp 116) rfl (by rfl) (by rfl) (by simp) ?_); intro v2 w2 hown2 hB2 hz2 hkeep)
                              have HK := Lib.hid hkeep
                              clear hkeep
                              go_roundw
                              case rel =>
                                refine ⟨s + 1, by omega, by go_num, ⟨?_, hB2, hz2⟩, ?_, ?_⟩
                                · rw [keepC_yes HCAND.out (by rw [HC.out]; exact HE.out), ← List.append_assoc]; exact hown2
                                · exact (Array.getElem?_eq_some_iff.1 (HK.out m (cellsZ Z) 3 (0, 0) (by decide) (by rw [heap_more _ _ (by simp; omega), Below.heap_alloc _ _ _ hml]; exact HM.out))).1
                                · exact HK.out m (cellsZ Z) 3 (0, 0) (by decide) (by rw [heap_more _ _ (by simp; omega), Below.heap_alloc _ _ _ hml]; exact HM.out)
                              case measure => simp [intOf]; omega
                            · have hE : Qt.eqb ⟨C.w, C.x, C.y, C.z⟩ ⟨W, X, Y, sv⟩ = false := by
                                rw [← Bool.not_eq_true, Qt.eqb_iff]; exact hc
                              have HE := Lib.hid hc
                              clear hc
                              go_wp2_with fail
                              (refine wp_region_quiet (C := Ext _) (by kernel_rfl) (by kernel_rfl) (Ext.start _) ?_; simp only []; (repeat (refine wpQuiet_step (fun K hK => ?_); go_simp; (try go_bits); apply Exists.intro; refine ⟨fun w' hw' => ?_, hK _ ?_⟩; (focus (first | with_reducible exact rfl | (go_at_call 53; (with_reducible exact Ext.call hw' (CAN.out _))) | (obtain ⟨gx, rfl⟩ := more_of_below (Ext.below hw'); go_simp; exact rfl))); clear hK K)); refine wpQuiet_nil ?_; intro w5 hw5; have hb5 := Ext.below hw5; clear hw5; obtain ⟨g5, rfl⟩ := more_of_below hb5; clear hb5)
                              go_wp2
                              go_roundw
                              case rel =>
                                refine ⟨s + 1, by omega, by go_num, ⟨?_, ?_, ?_⟩, ?_, ?_⟩
                                · rw [keepC_no HCAND.out (by rw [HC.out]; exact HE.out)]; exact (HI.out.1.alloc _).mor _
                                · have hB := HI.out.2.1; (repeat (first | with_reducible assumption | with_reducible exact Below.refl _ _ | with_reducible refine Below.drewN ?_ _ | with_reducible refine Below.drew ?_ | with_reducible refine Below.alloc ?_ (by first | omega | (simp; done) | (simp; omega)) _ | with_reducible refine Below.setCell ?_ (by first | omega | (simp; done) | (simp; omega)) _ | with_reducible refine below_more _ _ ?_ (by first | omega | (simp; done) | (simp; omega))))
                                · have := HI.out.2.2; simp; omega
                                · simp; omega
                                · show (more _ _).heap[m]? = _
                                  rw [heap_more _ _ (by simp; omega), Below.heap_alloc _ _ _ hml]; exact HM.out
                              case measure => simp [intOf]; omega
                          · obtain rfl : s = len := by omega
                            go_wp2
                            go_roundw
                            case rel =>
                              have hy := HY.out
                              refine ⟨b + 1, by omega, by congr 1; omega, ?_⟩
                              have h := HI.out
                              rw [← HROW.out, ← HP3.out, List.append_assoc, ← HS3.out] at h
                              exact h
                            case measure => simp [intOf]; omega
                  · go_wp2
                    go_roundw
                    case rel =>
                      have hbe : b = 2 * W + 1 := by have := HY.out; omega
                      subst hbe
                      refine ⟨a + 1, by have := HX.out; omega, by have := HX.out; congr 1; omega, ?_⟩
                      have hinv := HI.out
                      rw [← HP2.out, List.append_assoc, ← HS2.out] at hinv
                      exact hinv
                    case measure => simp [intOf]; omega
              · go_wp2
                go_roundw
                case rel =>
                  have hae : a = 2 * W + 1 := by have := HX.out; omega
                  subst hae
                  refine ⟨W + 1, by omega, by omega, by go_num, ?_⟩
                  have hinv := HI.out
                  rw [← HS.out] at hinv
                  rw [Nat.add_sub_cancel]
                  exact hinv
                case measure => simp [intOf]; omega
        · obtain rfl : M = W := by omega
          have hfin : ofNormK n (M - 1) = ofNormC n := by unfold ofNormC; rw [← hup.out]
          have hinv := HI.out
          rw [hfin] at hinv
          clear HI hfin
          obtain ⟨hown, hB, hz⟩ := hinv
          by_cases hnil : ofNormC n = []
          · have HL := Lib.hid hnil
            have HO := Lib.hid hown
            obtain ⟨_, ⟨rfl, _⟩ | ⟨g', cap, cur, hv, hg, hh, hn, hcap, hsz, htk⟩⟩ := hown
            · clear hnil
              go_wp2_with (first | (go_at_call 54; refine (AnyF.slices_SortFunc_none Tryd.sortH none 0 _ wo : Calls _ 54 _ _ _).mono ?_; rintro e w1 ⟨rfl, rfl⟩))
              go_ret
              exact ⟨_, rfl, HO.out, hB⟩
            · rw [hnil] at hv
              obtain rfl : u3 = .slice (some ⟨g', 0, none⟩) 0 cap := hv
              clear hnil htk hn
              go_wp2_with (first | (go_at_call 54; refine (AnyF.slices_SortFunc_none Tryd.sortH (some ⟨g', 0, none⟩) cap _ wo : Calls _ 54 _ _ _).mono ?_; rintro e w1 ⟨rfl, rfl⟩))
              go_ret
              exact ⟨_, rfl, HO.out, hB⟩
          · obtain ⟨g, cap, rfl, hg1, hg2, hrow⟩ := hown.slice hnil
            have hsort : sortUp (ofNormC n) = ofNormC n := sortUp_id (ofNormK_pw _ _)
            have hlen : (ofNormC n).length < 4611686018427387904 := by
              have hu := hup.out
              have := ofNormK_len n (up (4 * n) - 1) (by omega)
              unfold ofNormC; omega
            generalize hL : ofNormC n = L at hown hrow hsort hlen
            generalize hn : L.length = len at *
            have HR := Lib.hid hrow
            have HS := Lib.hid hsort
            have HN := Lib.hid hn
            have HLL := Lib.hid hL
            clear hown hrow hsort hn hnil hL
            go_wp2_with (first | (go_at_call 54; refine (by have h := sortUp_any w.heap.size g cap L wo (by rw [HN.out]; exact HR.out) (by rw [HN.out]; exact hlen); rw [HN.out] at h; exact h : Calls _ _ _ _ _).mono ?_; rintro e w1 ⟨rfl, hown1, hgr⟩))
            go_ret
            refine ⟨_, rfl, ?_, hB.grown hgr hz (fun k hk => by injection hk with hk; omega)⟩
            rw [HLL.out]
            rw [HS.out] at hown1
            unfold OwnH
            rw [HN.out]
            exact hown1
end Go.Proofs.YthajaabgcbjfkaaDoor
