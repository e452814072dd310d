/- Plain: what an opened element is. -/
import Derived.Test.YthajaabgcbjfkaaO1
import Derived.Test.YthajaabgcbjfkaaH3
namespace Go.Proofs.Ythajaabgcbjfkaa
open Go.RowKit

theorem Qd.oerr_zero {q : Qd} (h : q.oerr = 0) : q.okb = true ∧ q.rdok = true ∧ q.rdv.nrm / 4 ≤ 1000000 := by
  rcases q.oerr_cases with h' | h' | h' | h'
  · rw [h'.2] at h; exact absurd h (by decide)
  · rw [h'.2.2] at h; exact absurd h (by decide)
  · rw [h'.2.2.2] at h; exact absurd h (by decide)
  · exact ⟨h'.1, h'.2.1, h'.2.2.1⟩
theorem Qd.hz_rdv {q : Qd} (h : q.rdok = true) : Qt.Hz q.rdv := by
  simp only [Qd.rdok, Bool.and_eq_true, Bool.not_eq_true', bne_eq_false_iff_eq] at h
  rw [Qt.hz_iff]
  obtain ⟨_, _, _, _, h1, h2, h3⟩ := h
  rw [tmod2] at h1 h2 h3
  exact ⟨h1, h2, h3⟩
theorem oerrL_mem {l : List Qd} (h : oerrL l = 0) : ∀ q ∈ l, q.oerr = 0 := by
  induction l with
  | nil => simp
  | cons a l ih =>
    simp only [oerrL] at h
    split at h
    · intro q hq
      rcases List.mem_cons.1 hq with rfl | hq
      · assumption
      · exact ih h q hq
    · exact absurd h (by assumption)
end Go.Proofs.Ythajaabgcbjfkaa
