/- A region that draws its order, whose head calls, reads and makes blocks of its own (an 'alloc' for each new variable), and whose tail is forced: one walk of the text's order serves. Over any program. -/
import Derived.Deep.Quiet
import Derived.StillTail
import Derived.Below
import Derived.Test.YthajaabgcbjfkaaCalm
namespace Go.Proofs.Ythajaabgcbjfkaa
open Go.RowKit

/-- The blocks that the head has made so far. -/
def Made := Nat → Obj → Prop
def Made.none : Made := fun _ _ => False
def Made.ins (b : Nat) (ob : Obj) (B : Made) : Made := fun x y => (x = b ∧ y = ob) ∨ B x y
theorem Made.ins_comm (b b' : Nat) (ob ob' : Obj) (B : Made) : Made.ins b ob (Made.ins b' ob' B) = Made.ins b' ob' (Made.ins b ob B) := by
  funext x y; apply propext; unfold Made.ins; constructor <;> (rintro (h | h | h) <;> simp [h])
/-- The world is W, grown, and holds those blocks. -/
def CB (W : World) (B : Made) (w : World) : Prop := Below W.heap.size W w ∧ ∀ x y, B x y → W.heap.size ≤ x ∧ w.heap[x]? = some y

section
variable {P : Program} {ops : Array Oper} {md : Region.Mode} {W : World} {S : Nat → Value ⊕ Obj}

theorem CB.lt {B : Made} {w : World} (h : CB W B w) {x : Nat} {y : Obj} (hb : B x y) : x < w.heap.size := by
  have := (h.2 x y hb).2
  exact (Array.getElem?_eq_some_iff.1 this).1
theorem CB.step {B : Made} {w w' : World} (h : CB W B w) (hb : Below w.heap.size w w') : CB W B w' :=
  ⟨h.1.trans (hb.mono h.1.size), fun x y hxy => ⟨(h.2 x y hxy).1, (hb.block x (h.lt hxy)).trans (h.2 x y hxy).2⟩⟩
theorem CB.alloc {B : Made} {w : World} (h : CB W B w) (ob : Obj) : CB W (Made.ins w.heap.size ob B) (w.alloc ob) := by
  have hs := h.step ((Below.refl w.heap.size w).alloc (Nat.le_refl _) ob)
  refine ⟨hs.1, fun x y hxy => ?_⟩
  rcases hxy with ⟨rfl, rfl⟩ | hxy
  · exact ⟨h.1.size, by show (w.heap.push y)[w.heap.size]? = some y; simp⟩
  · exact hs.2 x y hxy

def quietM (P : Program) (w : World) (v : Value) : Result Next → Prop
  | .ok (.value u) w' => w' = w ∧ u = v
  | .ok .skip w' => w' = w ∧ v = undef
  | .ok (.enter f args) w' => w' = w ∧ Calls P f args w (fun e w'' => e = .returned v ∧ Below w.heap.size w w'')
  | _ => False

/-- What operation 'o' is to do in state 'a': yield a value, in whatever world that is W grown; or make a block. -/
def yieldsM (P : Program) (ops : Array Oper) (W : World) (o : Oper) (a : Act) : Value ⊕ Obj → Prop
  | .inl v => (Region.wanted o (yielded ops a.tmps) = true ∧ ∀ w, Below W.heap.size W w → quietM P w v ((execOp a.eval o).run P w)) ∨ (Region.wanted o (yielded ops a.tmps) = false ∧ v = undef)
  | .inr ob => Region.wanted o (yielded ops a.tmps) = true ∧ ∀ w : World, (execOp a.eval o).run P w = .ok (.value (.pointer (some ⟨w.heap.size, 0, none⟩))) (w.alloc ob)

def nextM (W : World) (s : Value ⊕ Obj) (dst : Option Tmp) (K : Made → Act → Prop) (B : Made) (a : Act) : Prop :=
  match s with
  | .inl v => K B (a.put dst v)
  | .inr ob => ∀ b, W.heap.size ≤ b → (∀ x y, B x y → x ≠ b) → K (Made.ins b ob B) (a.put dst (.pointer (some ⟨b, 0, none⟩)))

def opM (P : Program) (ops : Array Oper) (W : World) (S : Nat → Value ⊕ Obj) (i : Nat) (K : Made → Act → Prop) (B : Made) (a : Act) : Prop :=
  match ops[i]? with
  | none => K B a
  | some o => yieldsM P ops W o a (S i) ∧ nextM W (S i) o.dst K B a

def headM (P : Program) (md : Region.Mode) (ops : Array Oper) (W : World) (S : Nat → Value ⊕ Obj) (n : Nat) (L : Array Bool → Made → Act → Prop) : Nat → Array Bool → Made → Act → Prop
  | 0, listed, B, a => L listed B a
  | f + 1, listed, B, a =>
    Region.ready md ops listed ≠ [] ∧ ∀ i ∈ Region.ready md ops listed, i < n ∧ opM P ops W S i (headM P md ops W S n L f (listed.setIfInBounds i true)) B a

theorem wpOp_of_opM {i : Nat} {a : Act} {B : Made} {w : World} {K : Made → Act → Prop} {K' : Act → World → Prop} {Q' : Exit → Act → World → Prop} (hw : CB W B w) (h : ∀ B a w', CB W B w' → K B a → K' a w')
    (hh : opM P ops W S i K B a) : wpOp P ops Q' i K' a w := by
  unfold opM at hh
  unfold wpOp
  split
  · rename_i ho; simp only [ho] at hh; exact h _ _ _ hw hh
  · rename_i o ho
    simp only [ho] at hh
    obtain ⟨hy, hn⟩ := hh
    generalize S i = s at hy hn
    cases s with
    | inl v =>
      rcases hy with ⟨hwt, hq⟩ | ⟨hwt, rfl⟩
      · rw [if_pos hwt]
        left
        have hq := hq w hw.1
        unfold Oper.wp
        generalize (execOp a.eval o).run P w = r at *
        cases r with
        | ok x w' =>
          cases x <;> simp only [quietM] at hq <;> simp only [Oper.upon]
          case value u =>
            obtain ⟨e1, e2⟩ := hq
            rw [e1, e2]; exact h _ _ _ hw hn
          case skip =>
            obtain ⟨e1, e2⟩ := hq
            rw [e1, ← e2]; exact h _ _ _ hw hn
          case enter f args =>
            obtain ⟨e1, hc⟩ := hq
            rw [e1]
            exact hc.mono fun e w'' ⟨he, hb⟩ => by subst he; exact h _ _ _ (hw.step hb) hn
        | halt x w' => simp only [quietM] at hq
      · rw [if_neg (by rw [hwt]; simp)]
        exact h _ _ _ hw hn
    | inr ob =>
      obtain ⟨hwt, hr⟩ := hy
      rw [if_pos hwt]
      left
      unfold Oper.wp
      rw [hr w]
      simp only [Oper.upon]
      exact h _ _ _ (hw.alloc ob) (hn _ hw.1.size fun x y hxy => Nat.ne_of_lt (hw.lt hxy))

theorem wpAny_of_headM {n g : Nat} {L : Array Bool → Made → Act → Prop} {Q' : Exit → Act → World → Prop} (hL : ∀ listed B a w, CB W B w → L listed B a → wpAny P md ops Q' g listed a w) :
    ∀ (f : Nat) (listed : Array Bool) (B : Made) (a : Act) (w : World), CB W B w → headM P md ops W S n L f listed B a → wpAny P md ops Q' (f + g) listed a w
  | 0, _, _, _, _, hw, h => by rw [Nat.zero_add]; exact hL _ _ _ _ hw h
  | f + 1, listed, B, a, w, hw, h => by
    rw [show f + 1 + g = (f + g) + 1 by omega]
    exact ⟨fun h0 => absurd h0 h.1, fun i hi => wpOp_of_opM hw (fun B' a' w' hw' h' => wpAny_of_headM hL f _ B' a' w' hw' h') (h.2 i hi).2⟩

/-- There is always a block that none of those is. -/
def Bdd (B : Made) : Prop := ∃ N, ∀ x y, B x y → x < N
theorem Bdd.none : Bdd Made.none := ⟨0, fun _ _ h => h.elim⟩
theorem Bdd.ins {B : Made} (h : Bdd B) (b : Nat) (ob : Obj) : Bdd (Made.ins b ob B) := by
  obtain ⟨N, hN⟩ := h
  refine ⟨max N (b + 1), fun x y hxy => ?_⟩
  rcases hxy with ⟨rfl, _⟩ | hxy
  · omega
  · have := hN x y hxy; omega
theorem Bdd.fresh {B : Made} (h : Bdd B) (m : Nat) : ∃ b, m ≤ b ∧ ∀ x y, B x y → x ≠ b := by
  obtain ⟨N, hN⟩ := h
  exact ⟨max N m, by omega, fun x y hxy => by have := hN x y hxy; omega⟩

theorem nextM_mono {s : Value ⊕ Obj} {dst : Option Tmp} {K K' : Made → Act → Prop} {B : Made} {a : Act} (hB : Bdd B) (h : ∀ B' v, Bdd B' → K B' (a.put dst v) → K' B' (a.put dst v)) (hh : nextM W s dst K B a) : nextM W s dst K' B a := by
  cases s with
  | inl v => exact h B v hB hh
  | inr ob => exact fun b h1 h2 => h _ _ (hB.ins b ob) (hh b h1 h2)
theorem nextM_some {s : Value ⊕ Obj} {dst : Option Tmp} {K : Made → Act → Prop} {B : Made} {a : Act} (hB : Bdd B) (hh : nextM W s dst K B a) : ∃ B' v, Bdd B' ∧ K B' (a.put dst v) := by
  cases s with
  | inl v => exact ⟨B, v, hB, hh⟩
  | inr ob =>
    obtain ⟨b, h1, h2⟩ := hB.fresh W.heap.size
    exact ⟨_, _, hB.ins b ob, hh b h1 h2⟩
theorem nextM_comm {s t : Value ⊕ Obj} {x y : Option Tmp} {K : Made → Act → Prop} {B : Made} {a : Act} (hxy : ∀ d, x = some d → y ≠ some d) (hh : nextM W s x (nextM W t y K) B a) : nextM W t y (nextM W s x K) B a := by
  cases s with
  | inl v =>
    cases t with
    | inl u => simp only [nextM] at *; rwa [← Act.put_comm a v u hxy]
    | inr ob => intro b h1 h2; have := hh b h1 h2; simp only [nextM] at *; rwa [← Act.put_comm a v _ hxy]
  | inr ob =>
    cases t with
    | inl u => intro b h1 h2; have := hh b h1 h2; simp only [nextM] at *; rwa [← Act.put_comm a _ u hxy]
    | inr ob' =>
      intro b h1 h2 b' h1' h2'
      have hne : b ≠ b' := h2' b ob' (Or.inl ⟨rfl, rfl⟩)
      have := hh b' h1' (fun x y hxy => h2' x y (Or.inr hxy)) b h1 (fun x y hxy => by
        rcases hxy with ⟨rfl, _⟩ | hxy
        · exact Ne.symm hne
        · exact h2 x y hxy)
      rw [← Act.put_comm a _ _ hxy, Made.ins_comm]
      exact this

theorem yieldsM_put {o : Oper} {a : Act} {s : Value ⊕ Obj} {dst : Option Tmp} {v : Value} (hs : ∀ cs b, o.op ≠ .select cs b) (h : ∀ d, dst = some d → d ∉ o.looksAt ops) : yieldsM P ops W o (a.put dst v) s ↔ yieldsM P ops W o a s := by
  have e1 := execOp_put (ops := ops) o hs a dst v h
  have e2 := wanted_put (ops := ops) o a dst v h
  cases s <;> simp only [yieldsM, e1, e2]

theorem headM_first {n i : Nat} {oi : Oper} {L : Array Bool → Made → Act → Prop} (hi : ops[i]? = some oi) (hsel : ∀ (j : Nat) (o : Oper) cs b, ops[j]? = some o → o.op ≠ .select cs b)
    (hs : Region.sinkB md ops n = true) (hc : Region.chainB md ops n = true) (hn : n < ops.size) (hin : i < n)
    (hdone : ∀ listed B a, L listed B a → ∀ j ∈ Region.ready md ops listed, n ≤ j) :
    ∀ (f : Nat) (listed : Array Bool) (B : Made) (a : Act), HeadInv md ops n listed → Bdd B →
      (∀ j oj, ops[j]? = some oj → j ≠ i → listed.getD j true = false → (∀ e ∈ oj.after, Region.binds md e = true → e.on ≠ i) → oi.apart ops oj = true) →
      i ∈ Region.ready md ops listed → yieldsM P ops W oi a (S i) →
      nextM W (S i) oi.dst (headM P md ops W S n L f (listed.setIfInBounds i true)) B a → headM P md ops W S n L (f + 1) listed B a := by
  have here : ∀ (f : Nat) (listed : Array Bool) (B : Made) (a : Act), yieldsM P ops W oi a (S i) → nextM W (S i) oi.dst (headM P md ops W S n L f (listed.setIfInBounds i true)) B a →
      opM P ops W S i (headM P md ops W S n L f (listed.setIfInBounds i true)) B a := fun f listed B a hy H => by
    unfold opM; simp only [hi]; exact ⟨hy, H⟩
  intro f
  induction f with
  | zero =>
    intro listed B a inv hB _ hr hy H
    have hun := (mem_ready.1 hr).1
    refine ⟨fun h => (by rw [h] at hr; cases hr), fun j hj => ?_⟩
    have hjn : j < n := Nat.lt_of_not_le fun h => absurd hj (tail_waits hs hc hn inv _ i rfl hin hun j h)
    refine ⟨hjn, ?_⟩
    by_cases hji : j = i
    · subst hji; exact here _ _ _ _ hy H
    · obtain ⟨B', v, _, hL⟩ := nextM_some hB H
      have := hdone _ _ _ hL j (ready_mono hj hji)
      omega
  | succ f ih =>
    intro listed B a inv hB hfree hr hy H
    have hun := (mem_ready.1 hr).1
    refine ⟨fun h => (by rw [h] at hr; cases hr), fun j hj => ?_⟩
    have hjn : j < n := Nat.lt_of_not_le fun h => absurd hj (tail_waits hs hc hn inv _ i rfl hin hun j h)
    refine ⟨hjn, ?_⟩
    by_cases hji : j = i
    · subst hji; exact here _ _ _ _ hy H
    · obtain ⟨hjun, oj, hoj, hall⟩ := mem_ready.1 hj
      have hnot : ∀ e ∈ oj.after, Region.binds md e = true → e.on ≠ i := fun e he hb heq => by
        have h1 := hall e he hb
        rw [heq, getD_both hun] at h1
        cases h1
      obtain ⟨p1, p2, p3⟩ := Oper.apart_spec (hfree j oj hoj hji hjun hnot)
      have H1 : nextM W (S i) oi.dst (fun B' a' => yieldsM P ops W oj a' (S j) ∧ nextM W (S j) oj.dst (headM P md ops W S n L f ((listed.setIfInBounds i true).setIfInBounds j true)) B' a') B a :=
        nextM_mono hB (fun B' v _ hK => by
          have h1 := (hK.2 j (ready_mono hj hji)).2
          unfold opM at h1
          simp only [hoj] at h1
          exact h1) H
      have hyj : yieldsM P ops W oj a (S j) := by
        obtain ⟨B', v, _, h1, _⟩ := nextM_some hB H1
        exact (yieldsM_put (fun cs b => hsel j oj cs b hoj) p1).1 h1
      have H2 := nextM_comm p2 (nextM_mono hB (fun B' v _ hK => hK.2) H1)
      have hfree' : ∀ k ok, ops[k]? = some ok → k ≠ i → (listed.setIfInBounds j true).getD k true = false →
          (∀ e ∈ ok.after, Region.binds md e = true → e.on ≠ i) → oi.apart ops ok = true := fun k ok hk hki hu hno => by
        refine hfree k ok hk hki ?_ hno
        by_cases hjk : j = k
        · subst hjk; exact hjun
        · rw [getD_set_ne true hjk] at hu; exact hu
      unfold opM
      simp only [hoj]
      refine ⟨hyj, nextM_mono hB (fun B' v hB' hK => ih (listed.setIfInBounds j true) B' _ (inv.set hj hjn) hB' hfree' (ready_mono hr (Ne.symm hji)) ((yieldsM_put (fun cs b => hsel i oi cs b hi) p3).2 hy) ?_) H2⟩
      rw [Array.setIfInBounds_comm _ _ hji]
      exact hK

/-- The walk in the text's order. -/
def lexM (P : Program) (ops : Array Oper) (W : World) (S : Nat → Value ⊕ Obj) (Q : Made → Act → Prop) : List Oper → Nat → Made → Act → Prop
  | [], _, B, a => Q B a
  | o :: l, k, B, a => yieldsM P ops W o a (S k) ∧ nextM W (S k) o.dst (lexM P ops W S Q l (k + 1)) B a

theorem headM_lex {n g : Nat} {Lq : Made → Act → Prop} (hsel : Region.noSelect ops = true) (hs : Region.sinkB md ops n = true) (hc : Region.chainB md ops n = true) (hn : n < ops.size) :
    ∀ (l : List Oper) (k : Nat) (listed : Array Bool) (B : Made) (a : Act), (∀ j, j < l.length → l[j]? = ops[k + j]?) → k + l.length = n → HeadInv md ops n listed → Bdd B →
    Region.lexHead md ops g l.length k listed = true → lexM P ops W S Lq l k B a →
    headM P md ops W S n (fun listed' B' a' => Region.seqB md ops g n listed' = true ∧ Lq B' a') l.length listed B a
  | [], k, listed, B, a, _, hk, _, _, hB, h => by
    have : k = n := by simpa using hk
    subst this
    exact ⟨by simpa [Region.lexHead] using hB, h⟩
  | o :: l, k, listed, B, a, hl, hk, inv, hBd, hB, h => by
    have h0 : ops[k]? = some o := by simpa using (hl 0 (by simp)).symm
    simp only [List.length_cons, Region.lexHead, Bool.and_eq_true] at hB
    obtain ⟨⟨hr, hf⟩, hB'⟩ := hB
    have hkn : k < n := by simp only [List.length_cons] at hk; omega
    have hr' : k ∈ Region.ready md ops listed := by simpa using hr
    exact headM_first h0 (Region.noSelect_spec hsel) hs hc hn hkn (fun listed' B' a' hL => seqB_ready hL.1) l.length listed B a inv hBd (Region.free_spec h0 hf) hr' h.1
      (nextM_mono hBd (fun B' v hBd' hK => headM_lex hsel hs hc hn l (k + 1) _ B' _ (fun j hj => by have := hl (j + 1) (by simp; omega); simpa [Nat.add_assoc, Nat.add_comm 1 j] using this) (by simp only [List.length_cons] at hk; omega) (inv.set hr' hkn) hBd' hB' hK) h.2)

theorem wp_region_own {id : Nat} {Q : Exit → Act → World → Prop} {a : Act} {w : World} {l : List Oper} (n : Nat) (ss : List (Value ⊕ Obj)) (hm : P.follows .mixedOrders = true) (hB : Region.lexTailB .any l.toArray n = true)
    (h : lexM P l.toArray w (fun i => ss.getD i (.inl undef)) (fun B a' => ∀ w', CB w B w' → wpList P l.toArray Q (l.drop n) a' w') (l.take n) 0 Made.none a) : (Code.region id l.toArray true).wp P Q a w := by
  simp only [Region.lexTailB, Bool.and_eq_true, decide_eq_true_eq] at hB
  obtain ⟨⟨⟨⟨hsel, hn⟩, hs⟩, hc⟩, hlex⟩ := hB
  have hn' : n < l.length := by simpa using hn
  have htl : (l.take n).length = n := by simp; omega
  have hdl : (l.drop n).length = l.toArray.size - n := by simp
  have inv0 : HeadInv .any l.toArray n (Array.replicate l.toArray.size false) :=
    ⟨by simp, fun j oj _ hl => (by rw [getD_replicate_false] at hl; cases hl), fun t _ ht => getD_in (by simpa using ht) (getD_replicate_false _ _)⟩
  have H := headM_lex (md := .any) (g := l.toArray.size - n) hsel hs hc hn (l.take n) 0 _ Made.none a (fun j hj => by
    have hj' : j < n := by rw [htl] at hj; exact hj
    simp [hj']) (by simpa using htl) inv0 Bdd.none (by rw [htl]; exact hlex) h
  refine wp_region_any hm ?_
  have hC : CB w Made.none w.drew := ⟨(Below.refl _ _).drew, fun _ _ h => h.elim⟩
  have := wpAny_of_headM (Q' := Q) (g := l.toArray.size - n) (fun listed B a' w' hw' hL => by
    have := wpAny_of_seq (md := .any) (Q' := Q) (l.drop n) n listed a' w' (fun j => by simp [List.getElem?_drop]) (by rw [hdl]; exact hL.1) (hL.2 w' hw')
    rwa [hdl] at this) _ _ _ _ w.drew hC H
  rw [htl, show n + (l.toArray.size - n) = l.toArray.size by omega] at this
  exact this

/-- One step of that walk: a value. -/
theorem lexM_val {Q : Made → Act → Prop} {o : Oper} {l : List Oper} {k : Nat} {B : Made} {a : Act} {v : Value} (hS : S k = .inl v)
    (h : ∀ K : Act → Prop, (∀ a', lexM P ops W S Q l (k + 1) B a' → K a') → if Region.wanted o (yielded ops a.tmps) = true then (∀ w, Ext W w → quietM P w v ((execOp a.eval o).run P w)) ∧ K (a.put o.dst v) else v = undef ∧ K (a.put o.dst undef)) :
    lexM P ops W S Q (o :: l) k B a := by
  have h0 := h (lexM P ops W S Q l (k + 1) B) (fun _ h => h)
  refine ⟨?_, ?_⟩ <;> rw [hS] <;> by_cases hw : Region.wanted o (yielded ops a.tmps) = true
  · rw [if_pos hw] at h0; exact .inl ⟨hw, h0.1⟩
  · rw [if_neg hw] at h0; exact .inr ⟨by simpa using hw, h0.1⟩
  · rw [if_pos hw] at h0; exact h0.2
  · rw [if_neg hw] at h0; obtain ⟨e, h1⟩ := h0; rw [e]; exact h1
/-- One step of that walk: a block. -/
theorem lexM_mem {Q : Made → Act → Prop} {o : Oper} {l : List Oper} {k : Nat} {B : Made} {a : Act} {ob : Obj} (hS : S k = .inr ob) (hg : o.guard = none)
    (hr : ∀ w : World, (execOp a.eval o).run P w = .ok (.value (.pointer (some ⟨w.heap.size, 0, none⟩))) (w.alloc ob))
    (h : ∀ b, W.heap.size ≤ b → (∀ x y, B x y → x ≠ b) → lexM P ops W S Q l (k + 1) (Made.ins b ob B) (a.put o.dst (.pointer (some ⟨b, 0, none⟩)))) :
    lexM P ops W S Q (o :: l) k B a := by
  refine ⟨?_, ?_⟩ <;> rw [hS]
  · exact ⟨by simp [Region.wanted, hg], hr⟩
  · exact h
end
end Go.Proofs.Ythajaabgcbjfkaa
