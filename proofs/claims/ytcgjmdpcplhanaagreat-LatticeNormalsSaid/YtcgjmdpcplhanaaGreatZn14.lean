/- Lemmas for the law: Q23 Q24 Q25 W20 Q26 Q27 E28 M11 E36 -/
import Derived.Test.YtcgjmdpcplhanaaGreatZn13
namespace Go.Proofs.YtcgjmdpcplhanaaGreat
theorem zs141 {p q : Prop} (h : q) (f : Wq q→p:=by (intro hW;((refine aLalloc (k:=3) (z:=(.agg #[.int .i64 0,.slice none 0 0,.int .i64 0])) (d:=(.st [.sc (.int .i64 0),.sc (.slice none 0 0),.sc (.int .i64 0)])) rfl rfl rfl rfl rfl zb101 zb102 zb102 zb59 zb102 zb102 zb42 ?_));exact hW.out)) : p:=f ⟨h⟩
theorem zs225 {p q : Prop} (h : q) (f : Wq q→p:=by (intro hW;((refine gar ?_;refine zs23 ?_;refine zs33 ?_;refine zs4 ?_;refine zs79 ?_;refine zs79 ?_;refine zs141 ?_;refine zs47 ?_;refine zs6 ?_;refine aL_nil ?_));exact hW.out)) : p:=f ⟨h⟩
theorem zs228 {p q : Prop} (h : q) (f : Wq q→p:=by (intro hW;((refine gar ?_;refine zs4 ?_;refine zs42 ?_;refine aL_nil ?_));exact hW.out)) : p:=f ⟨h⟩
theorem zb56 {p : Prop} (h : p:=by (apply d_call0;(focus (exact rfl));(focus (assumption));(focus (exact rfl)))) : p:=h
theorem zs226 {p q : Prop} (h : q) (f : Wq q→p:=by (intro hW;((refine gar ?_;refine zs23 ?_;refine zs33 ?_;refine zs4 ?_;refine zs54 ?_;refine aL_nil ?_));exact hW.out)) : p:=f ⟨h⟩
theorem zs144 {p q : Prop} (h : q) (f : Wq q→p:=by (intro hW;((first | (refine aLs rfl rfl rfl rfl ?_ ?_;(focus (apply look_b;(conv=>lhs;whnf);(first | done | exact rfl | (apply sc_bool;(first | (apply decide_eq_true;omega) | (apply decide_eq_false;omega) | assumption | (simp;done))))))) | refine aLw rfl rfl rfl rfl zb31 zb56 ?_));exact hW.out)) : p:=f ⟨h⟩
theorem zs143 {p q : Prop} (h : q) (f : Wq q→p:=by (intro hW;((first | (refine aLsu rfl rfl rfl rfl ?_ ?_;(focus (apply look_b;exact rfl))) | (refine aLs rfl rfl rfl rfl ?_ ?_;(focus (apply look_b;(conv=>lhs;whnf);(first | done | exact rfl | (apply sc_bool;(first | (apply decide_eq_true;omega) | (apply decide_eq_false;omega) | assumption | (simp;done))))))) | refine aLw rfl rfl rfl rfl zb31 zb26 ?_));exact hW.out)) : p:=f ⟨h⟩
theorem zs232 {p q : Prop} (h : q) (f : Wq q→p:=by (intro hW;((refine gar ?_;refine zs4 ?_;refine zs44 ?_;refine zs4 ?_;refine zs8 ?_;refine zs12 ?_;refine zs131 ?_;refine zs133 ?_;refine zs133 ?_;refine zs143 ?_;refine zs136 ?_;refine zs62 ?_;refine zs4 ?_;refine zs144 ?_;refine zs13 ?_;refine zs6 ?_;refine aL_nil ?_));exact hW.out)) : p:=f ⟨h⟩
theorem zs229 {p q : Prop} (h : q) (f : Wq q→p:=by (intro hW;((refine gar ?_;refine zs23 ?_;refine zs33 ?_;refine zs4 ?_;refine zs79 ?_;refine zs79 ?_;refine zs47 ?_;refine zs6 ?_;refine aL_nil ?_));exact hW.out)) : p:=f ⟨h⟩
theorem zb68 {p : Prop} (h : p:=by rw [D.out.2.2.2];exact Nat.div_le_self _ _) : p:=h
theorem zb47 {p : Prop} (h : p:=by rw [← HQ.out];exact vl_mono_len D.out.2.2.1 H1.out.nf.dg zb68) : p:=h
theorem zs142 {p q : Prop} (h : q) (f : Wq q→p:=by (intro hW;((refine aLalloc (k:=7) (z:=(.agg #[.int .i64 0,.slice none 0 0,.int .i64 0])) (d:=(.st [.sc (.int .i64 0),.sc (.slice none 0 0),.sc (.int .i64 0)])) rfl rfl rfl rfl rfl zb101 zb102 zb102 zb59 zb102 zb102 zb42 ?_));exact hW.out)) : p:=f ⟨h⟩
theorem zs231 {p q : Prop} (h : q) (f : Wq q→p:=by (intro hW;((refine gar ?_;refine zs23 ?_;refine zs33 ?_;refine zs4 ?_;refine zs79 ?_;refine zs79 ?_;refine zs142 ?_;refine zs47 ?_;refine zs6 ?_;refine aL_nil ?_));exact hW.out)) : p:=f ⟨h⟩
theorem zs224 {p q : Prop} (h : q) (f : Wq q→p:=by (intro hW;((refine gar ?_;refine zs23 ?_;refine zs33 ?_;refine zs94 ?_;refine aL_nil ?_));exact hW.out)) : p:=f ⟨h⟩
theorem zs230 {p q : Prop} (h : q) (f : Wq q→p:=by (intro hW;((refine gar ?_;refine zs4 ?_;refine zs4 ?_;refine zs54 ?_;refine zs4 ?_;refine zs11 ?_;refine zs11 ?_;refine zs129 ?_;refine zs96 ?_;refine zs62 ?_;refine aL_nil ?_));exact hW.out)) : p:=f ⟨h⟩
theorem zs227 {p q : Prop} (h : q) (f : Wq q→p:=by (intro hW;((refine gar ?_;refine zs124 ?_;refine zs138 ?_;refine zs47 ?_;refine aL_nil ?_));exact hW.out)) : p:=f ⟨h⟩
end Go.Proofs.YtcgjmdpcplhanaaGreat
namespace Go.Proofs.YtcgjmdpcplhanaaGreat
open Go.RowKit
namespace CI
variable {P : Program} {h h' : H} {tm tm' : Tm} {rec : Rec} {n : Nat} {r : List RO} {S : Nat→SD} {ops : Array Oper} {A : Nat→Prop} {ρ ρ1 ρ2 : Nat→Nat} {w w1 w2 : World} {a : Act} {ds : List Nat} {L : Nat→Prop} {s j : Nat} {o : Oper} {ro : RO} {G h1 : H}
structure Meet (rec : Rec) (P : Program) (S : Nat→SD) (ops : Array Oper) (r : List RO) (tm : Tm) (h : H) (tm' : Tm) (h' : H) (n : Nat) (A : Nat→Prop) (L : Nat→Prop) (j : Nat) (o : Oper) (ro : RO) (G h1 : H) : Prop where
 t : Trace rec r tm h tm' h' S
 st : Stat P n ops r
 hg : RecGd rec
 f : Wf h
 hn : n < 1000000
 ho : ops[j]? = some o
 hr : r[j]? = some ro
 hj : ¬ L j
 pre : ∀ q,ro.pre.testBit q = true→L q
 dst : dstOk n o.dst = true
 sg : StepG P S ops j o ro.pre G h1
 dj : Dj A h h'
 nm : ∀ k,h.live k→A k
theorem Lv.uniq (t : Trace rec r tm h tm' h' S) (hg : RecGd rec) (f : Wf h) (hL : ∀ i, L i → i < r.length) {k : Nat} {b b' : B} (e : Lv S L s k b) (e' : Lv S L s k b') : b = b' := by
  have m0 : ∀ i, L i → (S 0).h.next ≤ (S i).h.next := fun i hi => t.mono hg f (Nat.zero_le _) (Nat.le_of_lt (hL i hi))
  rcases e with ⟨h1, e⟩ | ⟨i, hi, a1, a2, e⟩ <;> rcases e' with ⟨h1', e'⟩ | ⟨i', hi', a1', a2', e'⟩
  · rw [e] at e'; simpa using e'
  · have := m0 i' hi'; omega
  · have := m0 i hi; omega
  · have : i = i' := by
      rcases Nat.lt_trichotomy i i' with x | x | x
      · have := t.mono hg f (show i + 1 ≤ i' from x) (Nat.le_of_lt (hL i' hi')); omega
      · exact x
      · have := t.mono hg f (show i' + 1 ≤ i from x) (Nat.le_of_lt (hL i hi)); omega
    subst this
    rw [e] at e'; simpa using e'
section
variable (M : Meet rec P S ops r tm h tm' h' n A L j o ro G h1)
theorem Meet.jl (M : Meet rec P S ops r tm h tm' h' n A L j o ro G h1) : j < r.length:=(List.getElem?_eq_some_iff.1 M.hr).1
theorem Meet.mono (M : Meet rec P S ops r tm h tm' h' n A L j o ro G h1) {x y : Nat} (h1 : x≤y) (h2 : y≤r.length) : (S x).h.next≤(S y).h.next:=M.t.mono M.hg M.f h1 h2
theorem Inv.g_lv (I : Inv P S ops r h' n ds A ρ w L s ρ1 a w1) (M : Meet rec P S ops r tm h tm' h' n A L j o ro G h1) {k : Nat} {b : B} (e : G.get k = some b) : Lv S L s k b:=by
 obtain ⟨k1,k2,k3,k4⟩:=M.sg.g1 k b e
 obtain ⟨q1,q2⟩:=I.quiet M.t M.hr M.hj M.pre k3
 have jl:=M.jl
 by_cases hk : k < (S 0).h.next
 ·refine .inl ⟨hk,?_⟩
  rcases Nat.le_total s j with hs | hs
  ·rw [← stage_old M.t M.hg M.f hs (by omega) (Nat.lt_of_lt_of_le hk (M.mono (Nat.zero_le _) I.s0)) q1];exact k2
  ·rw [stage_old M.t M.hg M.f hs I.s0 k1 q2];exact k2
 ·obtain ⟨q,hq,a1,a2⟩:=M.t.owner (Nat.le_of_not_lt hk) k1
  refine .inr ⟨q,M.pre q (k4 q hq a1 a2),a1,a2,?_⟩
  rcases Nat.le_total s j with hs | hs
  ·rw [← stage_old M.t M.hg M.f (x:=max s (q + 1)) (y:=j) (by omega) (by omega) (Nat.lt_of_lt_of_le a2 (M.mono (by omega) (by omega))) (fun i i1 i2=>q1 i (by omega) i2)];exact k2
  ·rw [show max s (q + 1) = s by omega,stage_old M.t M.hg M.f hs I.s0 k1 q2];exact k2
theorem Inv.nmA (I : Inv P S ops r h' n ds A ρ w L s ρ1 a w1) (M : Meet rec P S ops r tm h tm' h' n A L j o ro G h1) {k : Nat} {b : B} (e : Lv S L s k b) : AL A S L k:=by
 rcases e with ⟨hk,e⟩ | ⟨i,hi,a1,a2,_⟩
 ·refine .inl (M.nm k ?_)
  have g:=(M.t.gd M.hg M.f s I.s0).2
  rw [M.t.h0] at hk
  exact g.good.back hk (get_live e)
 ·exact .inr ⟨i,hi,a1,a2⟩
theorem Inv.rel (I : Inv P S ops r h' n ds A ρ w L s ρ1 a w1) (M : Meet rec P S ops r tm h tm' h' n A L j o ro G h1) : Rel P (AL A S L) ρ1 w1 G:=by
 refine ⟨fun k b e=>?_,fun k k' hl hl' e=>?_,by rw [M.sg.nx];exact M.sg.bd⟩
 ·have hlv:=I.g_lv M e
  obtain ⟨b1,b2⟩:=I.blk k b hlv
  exact ⟨by rw [M.sg.nx];exact (M.sg.g1 k b e).1,I.nmA M hlv,b1,b2⟩
 ·obtain ⟨b,eb⟩:=Option.isSome_iff_exists.1 hl
  obtain ⟨b',eb'⟩:=Option.isSome_iff_exists.1 hl'
  exact I.inj k b k' b' (I.g_lv M eb) (I.g_lv M eb') e
theorem Inv.dj (I : Inv P S ops r h' n ds A ρ w L s ρ1 a w1) (M : Meet rec P S ops r tm h tm' h' n A L j o ro G h1) : Dj (AL A S L) G h1:=fun k hk=>by
 have jl:=M.jl
 rw [M.sg.nx,M.sg.nx1]
 rcases hk with hk | ⟨i,hi,a1,a2⟩
 ·have e1 : (S 0).h.next = h.next:=by rw [M.t.h0]
  have e2 : (S r.length).h.next = h'.next:=by rw [M.t.hN]
  have m1:=M.mono (Nat.zero_le j) (by omega)
  have m2:=M.mono (show j + 1≤r.length by omega) (Nat.le_refl _)
  have:=M.dj k hk
  omega
 ·rcases Nat.lt_trichotomy i j with x | x | x
  ·have:=M.mono (show i + 1≤j from x) (by omega);omega
  ·exact absurd (x ▸ hi) M.hj
  ·have:=M.mono (show j + 1≤i from x) (Nat.le_of_lt (I.lN i hi));omega
def nextS (S : Nat→SD) (s j : Nat) : Nat:=if (S (j + 1)).wr = true then j + 1 else s
theorem Inv.lv_next (I : Inv P S ops r h' n ds A ρ w L s ρ1 a w1) (M : Meet rec P S ops r tm h tm' h' n A L j o ro G h1) {k : Nat} {b : B} (e : Lv S (fun i => L i ∨ i = j) (nextS S s j) k b) :
    (h1.get k = some b ∧ (G.live k ∨ ((S j).h.next ≤ k ∧ k < (S (j + 1)).h.next))) ∨ (¬ G.live k ∧ ¬ ((S j).h.next ≤ k ∧ k < (S (j + 1)).h.next) ∧ Lv S L s k b) := by
  have jl := M.jl
  have hwr : (S (j + 1)).wr = true → s ≤ j ∧ ∀ i, s ≤ i → i < j → (S (i + 1)).wr = false := fun hw =>
    ⟨Nat.le_of_not_lt fun hlt => M.hj (I.sl j hlt hw), (I.quiet M.t M.hr M.hj M.pre (M.t.wr_rd jl hw)).1⟩
  have hs' : ((S (j + 1)).wr = true ∧ nextS S s j = j + 1) ∨ ((S (j + 1)).wr = false ∧ nextS S s j = s) := by
    unfold nextS
    cases hw : (S (j + 1)).wr with
    | true => exact .inl ⟨rfl, by simp⟩
    | false => exact .inr ⟨rfl, by simp⟩
  have hlive : G.live k → (S (j + 1)).wr = false → Lv S L s k b → h1.get k = some b := fun hG hw hl => by
    obtain ⟨b0, eb⟩ := Option.isSome_iff_exists.1 hG
    have := Lv.uniq M.t M.hg M.f I.lN hl (I.g_lv M eb)
    rw [M.sg.g5 hw k hG, eb, this]
  rcases e with ⟨hk, e⟩ | ⟨i, hi, a1, a2, e⟩
  · have hkj : k < (S j).h.next := Nat.lt_of_lt_of_le hk (M.mono (Nat.zero_le _) (by omega))
    by_cases hG : G.live k
    · refine .inl ⟨?_, .inl hG⟩
      rcases hs' with ⟨hw, hs⟩ | ⟨hw, hs⟩
      · rw [hs, M.sg.g3 k hG] at e; exact e
      · rw [hs] at e; exact hlive hG hw (.inl ⟨hk, e⟩)
    · refine .inr ⟨hG, by omega, .inl ⟨hk, ?_⟩⟩
      rcases hs' with ⟨hw, hs⟩ | ⟨hw, hs⟩
      · obtain ⟨q1, q2⟩ := hwr hw
        rw [hs, M.sg.g4 k hkj hG, stage_old M.t M.hg M.f q1 (by omega) (Nat.lt_of_lt_of_le hk (M.mono (Nat.zero_le _) I.s0)) q2] at e; exact e
      · rw [hs] at e; exact e
  · rcases hi with hi | hi
    · have hij : i ≠ j := fun x => M.hj (x ▸ hi)
      have hni : ¬ ((S j).h.next ≤ k ∧ k < (S (j + 1)).h.next) := fun hx => by
        rcases Nat.lt_or_gt_of_ne hij with x | x
        · have := M.mono (show i + 1 ≤ j from x) (by omega); omega
        · have := M.mono (show j + 1 ≤ i from x) (Nat.le_of_lt (I.lN i hi)); omega
      by_cases hG : G.live k
      · obtain ⟨b0, eb⟩ := Option.isSome_iff_exists.1 hG
        have hkj := (M.sg.g1 k b0 eb).1
        have hlt : i < j := by
          rcases Nat.lt_or_gt_of_ne hij with x | x
          · exact x
          · have h1 := M.mono (show j + 1 ≤ i from x) (Nat.le_of_lt (I.lN i hi))
            have h2 := M.mono (show j ≤ j + 1 by omega) (by omega)
            omega
        refine .inl ⟨?_, .inl hG⟩
        rcases hs' with ⟨hw, hs⟩ | ⟨hw, hs⟩
        · rw [hs, show max (j + 1) (i + 1) = j + 1 by omega, M.sg.g3 k hG] at e; exact e
        · rw [hs] at e; exact hlive hG hw (.inr ⟨i, hi, a1, a2, e⟩)
      · refine .inr ⟨hG, hni, .inr ⟨i, hi, a1, a2, ?_⟩⟩
        rcases hs' with ⟨hw, hs⟩ | ⟨hw, hs⟩
        · obtain ⟨q1, q2⟩ := hwr hw
          rcases Nat.lt_or_gt_of_ne hij with x | x
          · rw [hs, show max (j + 1) (i + 1) = j + 1 by omega, M.sg.g4 k (Nat.lt_of_lt_of_le a2 (M.mono (show i + 1 ≤ j from x) (by omega))) hG,
              stage_old M.t M.hg M.f (x := max s (i + 1)) (y := j) (by omega) (by omega) (Nat.lt_of_lt_of_le a2 (M.mono (by omega) (by omega))) (fun i' i1 i2 => q2 i' (by omega) i2)] at e
            exact e
          · rw [hs, show max (j + 1) (i + 1) = max s (i + 1) by omega] at e; exact e
        · rw [hs] at e; exact e
    · subst hi
      refine .inl ⟨?_, .inr ⟨a1, a2⟩⟩
      rcases hs' with ⟨hw, hs⟩ | ⟨hw, hs⟩
      · rw [hs, show max (i + 1) (i + 1) = i + 1 by omega] at e
        exact M.sg.g2 k b a1 e
      · rw [hs, stay (x := i + 1) (y := max s (i + 1)) (by omega) (fun x x1 x2 => ?_)] at e
        · exact M.sg.g2 k b a1 e
        · have hxs : x < s := by omega
          have hxr : x < r.length := Nat.lt_of_lt_of_le hxs I.s0
          cases hwx : (S (x + 1)).wr with
          | false => exact M.t.keepW M.hg M.f hxr hwx (Nat.lt_of_lt_of_le a2 (M.mono x1 (by omega)))
          | true =>
            obtain ⟨rx, hrx⟩ : ∃ rx, r[x]? = some rx := ⟨_, List.getElem?_eq_getElem hxr⟩
            refine M.t.keepO M.hg M.f hrx (show i < x by omega) ?_ a1 a2
            cases hp : rx.pre.testBit i with
            | false => rfl
            | true => exact absurd (I.cl x rx i (I.sl x hxs hwx) hrx hp) M.hj
end
end CI
end Go.Proofs.YtcgjmdpcplhanaaGreat
namespace Go.Proofs.YtcgjmdpcplhanaaGreat
open Go.RowKit
namespace CI
variable {P : Program} {h h' : H} {tm tm' : Tm} {rec : Rec} {n : Nat} {r : List RO} {S : Nat→SD} {ops : Array Oper} {A : Nat→Prop} {ρ ρ1 ρ2 : Nat→Nat} {w w1 w2 : World} {a : Act} {ds : List Nat} {L : Nat→Prop} {s j : Nat} {o : Oper} {ro : RO} {G h1 : H}
theorem put_other {dst : Option Tmp} {t : Nat} {u : Value} (h : dst ≠ some t) : (a.put dst u).tmps.getD t undef = a.tmps.getD t undef:=by
 cases dst with
 | none=>rfl
 | some d =>
  have hne : d ≠ t:=fun e=>h (by rw [e])
  simp only [Act.put,Array.getD_eq_getD_getElem?,Array.getElem?_setIfInBounds_ne hne]
theorem put_same {t : Nat} {u : Value} (ht : t < a.tmps.size) : (a.put (some t) u).tmps.getD t undef = u:=by
 simp only [Act.put,Array.getD_eq_getD_getElem?,Array.getElem?_setIfInBounds]
 simp [ht]
theorem Inv.step (I : Inv P S ops r h' n ds A ρ w L s ρ1 a w1) (M : Meet rec P S ops r tm h tm' h' n A L j o ro G h1) {u : Value} (p : Post P (AL A S L) ρ1 w1 G ρ2 w2 h1) (hu : VR P (Ext (AL A S L) G h1) ρ2 w2 (S (j + 1)).v u) :
    Inv P S ops r h' n ds A ρ w (fun i => L i ∨ i = j) (nextS S s j) ρ2 (a.put o.dst u) w2 := by
  have jl := M.jl
  have hdj := I.dj M
  have hmo : Mo (AL A S L) (AL A S fun i => L i ∨ i = j) ρ1 ρ2 := ⟨fun k hk => hk.imp id fun ⟨i, hi, hx⟩ => ⟨i, .inl hi, hx⟩, (p.mo hdj).eq⟩
  have hmo2 : Mo (Ext (AL A S L) G h1) (AL A S fun i => L i ∨ i = j) ρ2 ρ2 := ⟨fun k hk => by
    rcases hk with hk | hk
    · exact hmo.sub k hk
    · rw [M.sg.nx, M.sg.nx1] at hk
      exact .inr ⟨j, .inr rfl, hk⟩, fun _ _ => rfl⟩
  have hs' : ((S (j + 1)).wr = true ∧ nextS S s j = j + 1) ∨ ((S (j + 1)).wr = false ∧ nextS S s j = s) := by
    unfold nextS
    cases hw : (S (j + 1)).wr with
    | true => exact .inl ⟨rfl, by simp⟩
    | false => exact .inr ⟨rfl, by simp⟩
  have after : ∀ i, L i → ∀ rx, r[i]? = some rx → rx.pre.testBit j = true → False := fun i hi rx hrx hp => M.hj (I.cl i rx j hi hrx hp)
  have hframe : ∀ k b, Lv S L s k b → ¬ G.live k → w2.heap[ρ1 k]? = w1.heap[ρ1 k]? := fun k b hl hG => p.fr _ (I.blk k b hl).1 fun k' hl' _ e => by
    obtain ⟨b', eb'⟩ := Option.isSome_iff_exists.1 hl'
    have := I.inj k' b' k b (I.g_lv M eb') hl e
    subst this; exact hG hl'
  have hrho : ∀ k b, Lv S L s k b → ρ2 k = ρ1 k := fun k b hl => hmo.eq k (I.nmA M hl)
  have hbN : h'.next = (S r.length).h.next := by rw [M.t.hN]
  refine ⟨fun i rx q hi hrx hp => ?_, fun i hi => ?_, ?_, fun i hi hw => ?_, fun i hi hir hw hL => ?_, fun t => ?_, ?_, ?_, fun k b e => ?_, fun k b k' b' e e' hk => ?_, I.lt.trans p.lt, fun b hb hn => ?_, fun k hk => ?_, fun k b e hk => ?_⟩
  · rcases hi with hi | hi
    · exact .inl (I.cl i rx q hi hrx hp)
    · subst hi
      rw [M.hr] at hrx
      simp only [Option.some.injEq] at hrx; subst hrx
      exact .inl (M.pre q hp)
  · rcases hi with hi | hi
    · exact I.lN i hi
    · rw [hi]; exact jl
  · rcases hs' with ⟨_, e⟩ | ⟨_, e⟩ <;> rw [e]
    · exact jl
    · exact I.s0
  · rcases hs' with ⟨hwj, e⟩ | ⟨_, e⟩ <;> rw [e] at hi
    · rcases Nat.lt_succ_iff_lt_or_eq.1 hi with x | x
      · exact .inl (M.pre i (M.t.bound x M.hr (.inl ⟨hw, M.t.wr_rd jl hwj⟩)))
      · exact .inr x
    · exact .inl (I.sl i hi hw)
  · rcases hs' with ⟨hwj, e⟩ | ⟨hwj, e⟩ <;> rw [e] at hi
    · rcases hL with hL | hL
      · obtain ⟨rx, hrx⟩ : ∃ rx, r[i]? = some rx := ⟨_, List.getElem?_eq_getElem hir⟩
        exact after i hL rx hrx (M.t.bound (show j < i by omega) hrx (.inl ⟨hwj, M.t.wr_rd hir hw⟩))
      · omega
    · rcases hL with hL | hL
      · exact I.sr i hi hir hw hL
      · subst hL; rw [hw] at hwj; cases hwj
  · by_cases hd : o.dst = some t
    · have ht : t < n := by have := M.dst; rw [hd] at this; simpa [dstOk, Nat.blt_eq] using this
      refine .inl ⟨j, o, .inr rfl, M.ho, hd, fun i' o' hi' hlt ho' hd' => ?_, ?_⟩
      · rcases hi' with hi' | hi'
        · obtain ⟨rx, hrx⟩ : ∃ rx, r[i']? = some rx := ⟨_, List.getElem?_eq_getElem (I.lN i' hi')⟩
          exact after i' hi' rx hrx (M.st.tmp j i' o o' rx t hlt M.ho ho' hrx (.inr (.inr ⟨hd', hd⟩)))
        · omega
      · rw [hd, put_same (by rw [I.sz]; exact ht)]
        exact VR.mo hmo2 (Lt.refl _) _ _ hu
    · rw [put_other hd]
      rcases I.tmv t with ⟨i, o', q1, q2, q3, q4, q5⟩ | ⟨q1, q2⟩
      · refine .inl ⟨i, o', .inl q1, q2, q3, fun i' o'' hi' hlt ho' => ?_, VR.mo hmo p.lt _ _ q5⟩
        rcases hi' with hi' | hi'
        · exact q4 i' o'' hi' hlt ho'
        · subst hi'; rw [M.ho] at ho'; simp only [Option.some.injEq] at ho'; rw [← ho']; exact hd
      · refine .inr ⟨fun i' o'' hi' ho' => ?_, VR.mo hmo p.lt _ _ q2⟩
        rcases hi' with hi' | hi'
        · exact q1 i' o'' hi' ho'
        · subst hi'; rw [M.ho] at ho'; simp only [Option.some.injEq] at ho'; rw [← ho']; exact hd
  · have := I.sz
    cases o.dst <;> simp [Act.put, this]
  · have := I.df
    cases o.dst <;> simp [Act.put, this]
  · rcases I.lv_next M e with ⟨e1, _⟩ | ⟨hG, _, hl⟩
    · obtain ⟨_, _, b1, b2⟩ := p.rel.blk k b e1
      exact ⟨b1, b2.mo hmo2 (Lt.refl _) rfl⟩
    · obtain ⟨b1, b2⟩ := I.blk k b hl
      rw [hrho k b hl]
      exact ⟨Nat.lt_of_lt_of_le b1 p.lt.size, b2.mo hmo p.lt (hframe k b hl hG)⟩
  · have key : ∀ x y bx, h1.get x = some bx → (G.live x ∨ ((S j).h.next ≤ x ∧ x < (S (j + 1)).h.next)) → ∀ by', ¬ G.live y → Lv S L s y by' → ρ2 x = ρ2 y → x = y := fun x y bx ex hx by' hy hly hxy => by
      rw [hrho y by' hly] at hxy
      rcases hx with hx | hx
      · obtain ⟨b0, eb⟩ := Option.isSome_iff_exists.1 hx
        have hlx := I.g_lv M eb
        rw [hrho x b0 hlx] at hxy
        exact I.inj x b0 y by' hlx hly hxy
      · rcases p.new x (by rw [M.sg.nx]; exact hx.1) (get_live ex) with q | ⟨i, q1, q2, q3⟩
        · have := (I.blk y by' hly).1; omega
        · exfalso
          obtain ⟨b0, eb⟩ := Option.isSome_iff_exists.1 q1
          have := I.inj i b0 y by' (I.g_lv M eb) hly (q3.symm.trans hxy)
          subst this; exact hy q1
    rcases I.lv_next M e with ⟨e1, x1⟩ | ⟨hG, _, hl⟩ <;> rcases I.lv_next M e' with ⟨e1', x1'⟩ | ⟨hG', _, hl'⟩
    · exact p.rel.inj k k' (get_live e1) (get_live e1') hk
    · exact key k k' b e1 x1 b' hG' hl' hk
    · exact (key k' k b' e1' x1' b hG hl hk.symm).symm
    · rw [hrho k b hl, hrho k' b' hl'] at hk
      exact I.inj k b k' b' hl hl' hk
  · rw [p.fr b (Nat.lt_of_lt_of_le hb I.lt.size) fun k hl hlo hk => ?_, I.fr b hb hn]
    obtain ⟨b0, eb⟩ := Option.isSome_iff_exists.1 hl
    have hlv := I.g_lv M eb
    have hlow : h'.low ≤ k := by
      have h2 := M.t.low M.hg M.f (show j + 1 ≤ r.length by omega) (Nat.le_refl _)
      rw [M.t.hN] at h2
      exact Nat.le_trans h2 (M.sg.low k hl hlo)
    by_cases hk0 : k < (S 0).h.next
    · rw [I.rho k (.inl hk0)] at hk
      refine hn k ?_ hlow hk
      rcases hlv with ⟨_, e⟩ | ⟨i, hi, a1, _⟩
      · have g := (M.t.gd M.hg M.f s I.s0).2
        rw [M.t.h0] at hk0 ⊢
        exact g.good.back hk0 (get_live e)
      · have := M.mono (Nat.zero_le i) (Nat.le_of_lt (I.lN i hi)); omega
    · rcases I.new k b0 hlv (Nat.le_of_not_lt hk0) with q | ⟨i, q1, q2, q3⟩
      · omega
      · exact hn i q1 q2 (q3.symm.trans hk)
  · have m1 := M.mono (Nat.zero_le j) (by omega)
    have m2 := M.mono (show j + 1 ≤ r.length by omega) (Nat.le_refl _)
    rw [p.rho k (by rw [M.sg.nx, M.sg.nx1]; omega), I.rho k hk]
  · rcases I.lv_next M e with ⟨e1, x1⟩ | ⟨hG, _, hl⟩
    · rcases x1 with x1 | x1
      · obtain ⟨b0, eb⟩ := Option.isSome_iff_exists.1 x1
        have hlv := I.g_lv M eb
        rw [hrho k b0 hlv]
        exact I.new k b0 hlv hk
      · rcases p.new k (by rw [M.sg.nx]; exact x1.1) (get_live e1) with q | ⟨i, q1, q2, q3⟩
        · exact .inl (Nat.le_trans I.lt.size q)
        · obtain ⟨b0, eb⟩ := Option.isSome_iff_exists.1 q1
          have hlv := I.g_lv M eb
          have hlow : h'.low ≤ i := by
            have h2 := M.t.low M.hg M.f (show j + 1 ≤ r.length by omega) (Nat.le_refl _)
            rw [M.t.hN] at h2
            exact Nat.le_trans h2 (M.sg.low i q1 q2)
          rw [q3]
          by_cases hi0 : i < (S 0).h.next
          · refine .inr ⟨i, ?_, hlow, I.rho i (.inl hi0)⟩
            rcases hlv with ⟨_, e⟩ | ⟨i', hi', a1, _⟩
            · have g := (M.t.gd M.hg M.f s I.s0).2
              rw [M.t.h0] at hi0 ⊢
              exact g.good.back hi0 (get_live e)
            · have := M.mono (Nat.zero_le i') (Nat.le_of_lt (I.lN i' hi')); omega
          · exact I.new i b0 hlv (Nat.le_of_not_lt hi0)
    · rw [hrho k b hl]
      exact I.new k b hl hk
end CI
end Go.Proofs.YtcgjmdpcplhanaaGreat
namespace Go.Proofs.YtcgjmdpcplhanaaGreat
open Go.RowKit
namespace CI
variable {P : Program} {h h' : H} {tm tm' : Tm} {rec : Rec} {n : Nat} {r : List RO} {S : Nat→SD} {ops : Array Oper} {A : Nat→Prop} {ρ ρ1 ρ2 : Nat→Nat} {w w1 w2 : World} {a : Act} {ds : List Nat} {L : Nat→Prop} {s j : Nat} {o : Oper} {ro : RO} {G h1 : H} {E : Env}
theorem drew_below (w : World) : Below w.heap.size w { w with drawn:=w.drawn + 1 }:=(Below.refl _ w).drew
theorem inv_start (t : Trace rec r tm h tm' h' S) (tR : Rel P A ρ w h) (hf : Fr P A ρ w n ds tm a) : Inv P S ops r h' n ds A ρ w (fun _=>False) 0 ρ a { w with drawn:=w.drawn + 1 }:=by
 have hlt:=Lt.below (drew_below w)
 have hA : ∀ k,A k→AL A S (fun _=>False) k:=fun k hk=>.inl hk
 have hmo : Mo A (AL A S fun _=>False) ρ ρ:=⟨hA,fun _ _=>rfl⟩
 have hlv : ∀ k b,Lv S (fun _=>False) 0 k b→h.get k = some b:=fun k b e=>by
  rcases e with ⟨_,e⟩ | ⟨_,e,_⟩
  ·rw [t.h0] at e;exact e
  ·exact e.elim
 refine ⟨fun _ _ _ e=>e.elim,fun _ e=>e.elim,Nat.zero_le _,fun i hi=>by omega,fun _ _ _ _ e=>e,fun u=>.inr ⟨fun _ _ e=>e.elim,?_⟩,hf.sz,hf.df,fun k b e=>?_,fun k b k' b' e e' hk=>?_,hlt,fun b _ _=>rfl,fun _ _=>rfl,fun k b e hk=>?_⟩
 ·rw [t.tm0]
  exact VR.mo hmo hlt _ _ (hf.tr u)
 ·obtain ⟨_,_,b1,b2⟩:=tR.blk k b (hlv k b e)
  exact ⟨b1,b2.mo hmo hlt rfl⟩
 ·exact tR.inj k k' (get_live (hlv k b e)) (get_live (hlv k' b' e')) hk
 ·have:=(tR.blk k b (hlv k b e)).1
  rw [t.h0] at hk;omega
theorem inv_end {a0 : Act} (I : Inv P S ops r h' n ds A ρ w L s ρ1 a w1) (t : Trace rec r tm h tm' h' S) (st : Stat P n ops r) (hg : RecGd rec) (f : Wf h) (hn : n < 1000000) (hall : ∀ i, i < r.length → L i) (tR : Rel P A ρ w h) (hd : Dj A h h') (hf : Fr P A ρ w n ds tm a0) : Post P A ρ w h ρ1 w1 h' ∧ Fr P (Ext A h h') ρ1 w1 n ds tm' a := by
  have hAL : ∀ k, AL A S L k → Ext A h h' k := fun k hk => by
    rcases hk with hk | ⟨i, hi, a1, a2⟩
    · exact .inl hk
    · have m1 := t.mono hg f (Nat.zero_le i) (Nat.le_of_lt (I.lN i hi))
      have m2 := t.mono hg f (show i + 1 ≤ r.length from I.lN i hi) (Nat.le_refl _)
      rw [t.h0] at m1
      rw [t.hN] at m2
      exact .inr (by omega)
  have hmo : Mo (AL A S L) (Ext A h h') ρ1 ρ1 := ⟨hAL, fun _ _ => rfl⟩
  obtain ⟨wfN, gN⟩ := t.gd hg f r.length (Nat.le_refl _)
  rw [t.hN] at wfN gN
  have hq : ∀ i, s ≤ i → i < r.length → (S (i + 1)).wr = false := fun i h1 h2 => by
    cases hw : (S (i + 1)).wr with
    | false => rfl
    | true => exact absurd (hall i h2) (I.sr i h1 h2 hw)
  have hlv : ∀ k b, h'.get k = some b → Lv S L s k b := fun k b e => by
    by_cases hk : k < (S 0).h.next
    · refine .inl ⟨hk, ?_⟩
      rw [← stage_old t hg f I.s0 (Nat.le_refl _) (Nat.lt_of_lt_of_le hk (t.mono hg f (Nat.zero_le _) I.s0)) hq, t.hN]; exact e
    · have hkN : k < (S r.length).h.next := by rw [t.hN]; exact wfN.lt k b (get_tree e)
      obtain ⟨q, hq1, a1, a2⟩ := t.owner (Nat.le_of_not_lt hk) hkN
      refine .inr ⟨q, hall q hq1, a1, a2, ?_⟩
      have hs0 := I.s0
      rw [← stage_old t hg f (x := max s (q + 1)) (y := r.length) (by omega) (Nat.le_refl _) (Nat.lt_of_lt_of_le a2 (t.mono hg f (by omega) (by omega))) (fun i i1 i2 => hq i (by omega) i2), t.hN]; exact e
  refine ⟨⟨fun k hk => I.rho k (by rw [t.h0]; exact hk), ⟨fun k b e => ?_, fun k k' hl hl' hk => ?_, wfN.bd⟩, I.lt, fun b hb hx => I.fr b hb (by rw [t.h0]; exact hx), fun k hk hl => ?_⟩, ⟨fun u => ?_, I.sz, fun k hk => .inl (hf.nm k hk), ?_⟩⟩
  · obtain ⟨b1, b2⟩ := I.blk k b (hlv k b e)
    have hAk : AL A S L k := by
      rcases hlv k b e with ⟨hk, e2⟩ | ⟨i, hi, a1, a2, _⟩
      · rw [t.h0] at hk
        exact .inl (tR.live (gN.good.back hk (get_live e))).2.1
      · exact .inr ⟨i, hi, a1, a2⟩
    exact ⟨wfN.lt k b (get_tree e), hAL k hAk, b1, b2.mo hmo (Lt.refl _) rfl⟩
  · obtain ⟨b, eb⟩ := Option.isSome_iff_exists.1 hl
    obtain ⟨b', eb'⟩ := Option.isSome_iff_exists.1 hl'
    exact I.inj k b k' b' (hlv k b eb) (hlv k' b' eb') hk
  · obtain ⟨b, eb⟩ := Option.isSome_iff_exists.1 hl
    have := I.new k b (hlv k b eb) (by rw [t.h0]; exact hk)
    rwa [t.h0] at this
  · refine VR.mo hmo (Lt.refl _) _ _ ?_
    rw [← t.tmN]
    have hlo : ∀ {i : Nat} {o : Oper}, ops[i]? = some o → i < r.length := fun ho => by rw [st.len]; exact (Array.getElem?_eq_some_iff.1 ho).1
    rcases tm_at t st hn u r.length (Nat.le_refl _) with ⟨i, o', h1, h2, h3, h4, h5⟩ | ⟨h1, h2⟩
    · rw [h5]
      rcases I.tmv u with ⟨i', o'', k1, k2, k3, k4, k5⟩ | ⟨k1, k2⟩
      · have : i' = i := by
          rcases Nat.lt_trichotomy i i' with e | e | e
          · exact absurd k3 (h4 i' o'' (hlo k2) e k2)
          · exact e.symm
          · exact absurd h3 (k4 i o' (hall i h1) e h2)
        subst this; exact k5
      · exact absurd h3 (k1 i o' (hall i h1) h2)
    · rw [h2]
      rcases I.tmv u with ⟨i', o'', k1, k2, k3, k4, k5⟩ | ⟨k1, k2⟩
      · exact absurd k3 (h1 i' o'' (hlo k2) k2)
      · exact k2
  · rw [I.df]
    exact List.map_congr_left fun k hk => by
      unfold coll
      rw [I.rho k (by rw [t.h0]; exact hd k (hf.nm k hk))]
theorem any_ok (hrec : RecOK P rec) (hg : RecGd rec) (t : Trace rec r tm h tm' h' S) (st : Stat P n ops r) (f : Wf h) (hn : n < 1000000) {F : Fence} (hF : FC F) {Q : Exit→Act→World→Prop} {a0 : Act} (tR : Rel P A ρ w h) (hd : Dj A h h') (hf : Fr P A ρ w n ds tm a0)
  (hq : ∀ ρ' w' a',Post P A ρ w h ρ' w' h'→Fr P (Ext A h h') ρ' w' n ds tm' a'→Q .normal a' w') : ∀ (fuel : Nat) (listed : Array Bool) (a : Act) (w1 : World) (s : Nat) (ρ1 : Nat→Nat) (U : List Nat),listed.size = ops.size→U.length≤fuel→(∀ i,i < ops.size→listed.getD i false = false→i ∈ U) →
   Inv P S ops r h' n ds A ρ w (fun i=>listed.getD i false = true) s ρ1 a w1→wpAnyIn F 0 P .any ops Q fuel listed a w1:=by
 have hsz:=st.len
 have done : ∀ (listed : Array Bool) (a : Act) (w1 : World) (s : Nat) (ρ1 : Nat→Nat),(∀ i,i < ops.size→listed.getD i false = true)→Inv P S ops r h' n ds A ρ w (fun i=>listed.getD i false = true) s ρ1 a w1→Q .normal a w1:=fun listed a w1 s ρ1 hall I=>by
  obtain ⟨p,fr⟩:=inv_end I t st hg f hn (fun i hi=>hall i (by omega)) tR hd hf
  exact hq ρ1 w1 a p fr
 have unl : ∀ (listed : Array Bool) (j : Nat),listed.size = ops.size→listed.getD j true = false→j < ops.size∧listed.getD j false = false:=fun listed j hs hl=>by
  rw [Array.getD_eq_getD_getElem?] at hl
  cases e : listed[j]? with
  | none=>rw [e] at hl;simp at hl
  | some b =>
   rw [e] at hl
   have hlt:=(Array.getElem?_eq_some_iff.1 e).1
   refine ⟨by omega,?_⟩
   rw [Array.getD_eq_getD_getElem?,e];simpa using hl
 intro fuel
 induction fuel with
 | zero =>
  intro listed a w1 s ρ1 U hs hU hin I
  have hUn : U = []:=List.eq_nil_of_length_eq_zero (by omega)
  subst hUn
  have hall : ∀ i,i < ops.size→listed.getD i false = true:=fun i hi=>by
   cases hb : listed.getD i false with
   | true=>rfl
   | false=>exact absurd (hin i hi hb) (by simp)
  refine ⟨?_,done listed a w1 s ρ1 hall I⟩
  cases hr : Region.ready .any ops listed with
  | nil=>rfl
  | cons x xs =>
   exfalso
   have hx : x ∈ Region.ready .any ops listed:=by rw [hr];exact List.mem_cons_self
   obtain ⟨h1,h2⟩:=unl listed x hs (mem_ready.1 hx).1
   rw [hall x h1] at h2;cases h2
 | succ fuel ih =>
  intro listed a w1 s ρ1 U hs hU hin I
  refine ⟨fun hr=>?_,fun j hj=>?_⟩
  ·refine done listed a w1 s ρ1 (fun i=>?_) I
   induction i using Nat.strongRecOn with
   | _ i ihi =>
    intro hi
    cases hb : listed.getD i false with
    | true=>rfl
    | false =>
     exfalso
     have hmem : i ∈ Region.ready .any ops listed:=by
      refine mem_ready.2 ⟨?_,ops[i],Array.getElem?_eq_getElem hi,fun e he hbd=>?_⟩
      ·have e:=Array.getElem?_eq_getElem (xs:=listed) (i:=i) (by omega)
       rw [Array.getD_eq_getD_getElem?,e] at hb ⊢
       simpa using hb
      ·have hlt:=st.edge i ops[i] e (Array.getElem?_eq_getElem hi) zb97 hbd
       exact ihi e.on hlt (by omega)
     rw [hr] at hmem;cases hmem
  ·obtain ⟨h1,o,ho,h3⟩:=mem_ready.1 hj
   obtain ⟨hjs,hjl⟩:=unl listed j hs h1
   obtain ⟨ro,G,h1',hr,hdst,_,sg⟩:=step_of hrec hg t st f ho
   have hpre : ∀ q,ro.pre.testBit q = true→listed.getD q false = true:=fun q hq=>by
    obtain ⟨e,he,hbd,hx⟩:=st.pre j o ro q ho hr hq
    have hl:=h3 e zb97 hbd
    rcases hx with hx | ⟨ro',hr',hq'⟩
    ·rw [← hx];exact hl
    ·exact I.cl e.on ro' q hl hr' hq'
   have M : Meet rec P S ops r tm h tm' h' n A (fun i=>listed.getD i false = true) j o ro G h1':=⟨t,st,hg,f,hn,ho,hr,by simp only [hjl];simp,hpre,hdst,sg,hd,fun k hk=>(tR.live hk).2.1⟩
   refine sg.wp F hF Q _ _ ρ1 w1 a (I.rel M) (I.dj M) (I.slots t st hn ho hr M.hj hpre) fun u w2 ρ2 p hu=>?_
   have I2:=I.step M p hu
   have hset : ∀ i,(listed.setIfInBounds j true).getD i false = true ↔ (listed.getD i false = true∨i = j):=fun i=>by
    by_cases e : i = j
    ·subst e
     simp [Array.getD_eq_getD_getElem?,Array.getElem?_setIfInBounds,show i < listed.size by omega]
    ·simp [Array.getD_eq_getD_getElem?,Array.getElem?_setIfInBounds_ne (Ne.symm e),e]
   have hfun : (fun i=>listed.getD i false = true∨i = j) = (fun i=>(listed.setIfInBounds j true).getD i false = true):=funext fun i=>propext (hset i).symm
   rw [hfun] at I2
   have hjU : j ∈ U:=hin j hjs hjl
   refine ih _ _ _ _ _ (U.erase j) (by simp [hs]) (by rw [List.length_erase_of_mem hjU];omega) (fun i hi hb=>?_) I2
   have hne : i ≠ j:=fun e=>by
    have:=(hset i).2 (.inr e)
    rw [this] at hb;cases hb
   have hb' : listed.getD i false = false:=by
    cases hx : listed.getD i false with
    | false=>rfl
    | true=>rw [(hset i).2 (.inl hx)] at hb;cases hb
   exact (List.mem_erase_of_ne hne).2 (hin i hi hb')
theorem regD_ok (hmix : P.follows .mixedOrders = true) (rec : Rec) (hrec : RecOK P rec) (hg : RecGd rec) : RegDOK P rec:=by
 intro F hF Q ops id n hn r hc tm h tm' h' e f A ρ w a ds tR hd hf hq
 obtain ⟨S,t⟩:=trace_of e
 have st:=stat_of hc
 refine wpIn_region_any hmix (any_ok hrec hg t st f hn hF tR hd hf hq ops.size _ a _ 0 ρ (List.range ops.size) (by simp) (by simp) (fun i hi _=>List.mem_range.2 hi) ?_)
 have I:=inv_start (ops:=ops) t tR hf
 have hfun : (fun _ : Nat=>False) = (fun i=>(Array.replicate ops.size false).getD i false = true):=funext fun i=>propext (by
  simp only [false_iff,Array.getD_eq_getD_getElem?,Array.getElem?_replicate]
  split <;> simp)
 rw [hfun] at I
 exact I
theorem run_calls (hmix : P.follows .mixedOrders = true) (hO : OrcOK P E) (hfn : E.fns = compF P) {N g : Nat} (hE : Enters P g) {c : C} {h' : H} (e : run E N (.call (.fn g []) [] ⟨0, 0, [], .e⟩) = some (.val c h')) (w : World) :
    Calls P g #[] w (fun e w' => ∃ u A ρ, e = .returned u ∧ VR P A ρ w' c u ∧ Rel P A ρ w' h' ∧ Below w.heap.size w w') := by
  have hok := (run_ok hO hfn (fun rec h1 h2 => regD_ok hmix rec h1 h2) N).1
  have hbare : ∀ k, (⟨0, 0, [], .e⟩ : H).get k = none := bare_get 0
  have tR : Rel P (fun _ => False) (fun _ => 0) w ⟨0, 0, [], .e⟩ := ⟨(fun k b e => by rw [hbare] at e; cases e), (fun k _ hl => by unfold H.live at hl; rw [hbare] at hl; cases hl), by simp⟩
  obtain ⟨d, hd, hk⟩ := hok _ _ _ _ _ e ⟨by simp, (fun k b e => by rw [T.get_e] at e; cases e)⟩ (fun _ => False) (fun _ => 0) w (.func (.func g) #[] #[]) #[] tR (fun k hk => hk.elim) (by simp only [VR, VRl]; exact ⟨_, rfl, rfl⟩) (by simp only [VRl])
  rcases hk with ⟨g', args', q1, q2⟩ | ⟨l, g', tmps, s, b, q0, _⟩
  · have hkey : g' = g ∧ args' = #[] := by
      obtain ⟨d', r1, r2⟩ := invoke_fn hE #[] #[] w
      rw [r1] at hd
      simp only [Result.ok.injEq, and_true] at hd
      rw [← hd, r2] at q1
      simp only [Result.ok.injEq, Next.enter.injEq, and_true] at q1
      exact ⟨q1.1.symm, by rw [← q1.2]; rfl⟩
    obtain ⟨rfl, rfl⟩ := hkey
    refine (callsIn_wide.1 q2).mono fun e' w' ⟨u, ρ', h1, p, hu⟩ => ⟨u, _, ρ', h1, hu, p.rel, p.lt.os, p.lt.tape, p.lt.output, p.lt.size, fun k hk => p.fr k hk fun j hl => ?_⟩
    unfold H.live at hl; rw [hbare] at hl; cases hl
  · cases q0
end CI
end Go.Proofs.YtcgjmdpcplhanaaGreat
namespace Go.Proofs.YtcgjmdpcplhanaaGreat
open Go.RowKit Go.BigFrame
attribute [local go_sem ↓] Go.wp_at_zero Go.wp_at_succ
theorem four_mul_le (r y : Nat) : 4 * (r * y)≤(r + y) * (r + y):=by
 rcases Nat.le_total r y with h | h <;> obtain ⟨d,rfl⟩:=Nat.le.dest h
 ·have : (r + (r + d)) * (r + (r + d)) = 4 * (r * (r + d)) + d * d:=by grind
  omega
 ·have : (y + d + y) * (y + d + y) = 4 * ((y + d) * y) + d * d:=by grind
  omega
theorem newton_up {a r : Nat} (hr : 0 < r) : a < ((r + a / r) / 2 + 1) * ((r + a / r) / 2 + 1):=by
 have h1 : a < r * (a / r + 1):=by
  have:=Nat.div_add_mod a r;have:=Nat.mod_lt a hr
  rw [Nat.mul_add,Nat.mul_one];omega
 generalize a / r = q at *
 have h2:=four_mul_le r (q + 1)
 have h3 : r + (q + 1)≤2 * ((r + q) / 2 + 1):=by omega
 generalize (r + q) / 2 + 1 = m at *
 have h4:=Nat.mul_le_mul h3 h3
 have h5 : 2 * m * (2 * m) = 4 * (m * m):=by grind
 omega
theorem newton_end {a r : Nat} (h : r≤(r + a / r) / 2) : r * r≤a:=by
 have h1 : r≤a / r:=by omega
 exact Nat.le_trans (Nat.mul_le_mul_left r h1) (Nat.mul_div_le a r)
theorem nf_one_high (n : Nat) : Dg.NF B32 ((List.replicate (n + 1) 0).set n 1)∧Dg.vl B32 ((List.replicate (n + 1) 0).set n 1) = B32 ^ n:=by
 have e : (List.replicate (n + 1) 0).set n 1 = List.replicate n 0 ++ [1]:=by
  rw [List.replicate_succ',List.set_append_right _ _ (by simp)];simp
 rw [e]
 refine ⟨⟨Dg.dig_append (Dg.dig_zeros (by decide) _) (fun x hx=>by rw [List.mem_singleton.1 hx];decide),by simp⟩,?_⟩
 rw [Dg.vl_append,Dg.vl_zeros];simp [Dg.vl]
theorem RowU.made_set (W : World) (N k d : Nat) (hk : k < N) : RowU (W.alloc (.cells ((madeCells #[.int .u32 0] N).setIfInBounds k (.int .u32 (d : Int))) 138)) W.heap.size ((List.replicate N 0).set k d):=by
 have h:=(RowU.made W N).set (k:=k) (by simpa using hk) d
 simpa only [go_sem] using h
structure RC (wr : World) (a : Option Addr) (l : List Nat) (L k : Nat) (a1 : Option Addr) (l1 : List Nat) (c1 : Nat) : Prop where
 w0 : WS wr a l
 w1 : WS wr a1 l1
 n1 : Dg.NF B32 l1
 h1 : l1.length≤c1
 b1 : l1.length≤L
 p : 0 < Dg.vl B32 l1
 u : Dg.vl B32 l < (Dg.vl B32 l1 + 1) * (Dg.vl B32 l1 + 1)
 k : k = Dg.vl B32 l1
def RtRes (u : Nat) (e : Ending) (w' : World) : Prop:=∃ z r,e = .returned (.tuple #[.agg #[.bool z.s,.slice z.a z.n z.cap],.int .i64 0])∧IZ w' z ((r : Nat) : Int)∧r * r≤u∧u < (r + 1) * (r + 1)
set_option maxRecDepth 10000 in
set_option maxHeartbeats 8000000 in
theorem root_any (x : IV) (u : Int) (fu : Fit u) (hu : 0≤u) (w : World) (hx : IP w x u) :
  Calls Tryz.prog 203 #[.agg #[.bool x.s,.slice x.a x.n x.cap]] w fun e w'=>RtRes u.toNat e w'∧Below w.heap.size w w':=by
 obtain ⟨l,h1,rfl⟩:=hx
 have bl:=fit_len h1.nf fu
 have S1:=Lib.hid (fun w (h : IW w x l)=>size_any x l (by omega) w h)
 have H1:=Lib.hid h1
 by_cases hl0 : l = []
 ·have hv0 : Dg.iv x.s (Dg.vl B32 l) = 0:=by rw [hl0];exact Dg.iv_zero _
  rw [hv0]
  have hml : l.length = 0:=by rw [hl0];rfl
  rw [hml] at S1
  obtain ⟨s,a,n,cap⟩:=x
  simp only [] at S1
  clear h1 fu hv0 hml hl0 hu
  go_enter Tryz.func203,Tryz.ntmps203
  go_wp2_with (first | (go_at_call 163;(with_reducible refine (S1.out _ ?_).mono ?_);(focus (exact H1.out.below (B:=w.heap.size) zb103 (Nat.le_refl _)));rintro e w1 ⟨rfl,hb1⟩;obtain ⟨g1,rfl⟩:=mob hb1;clear hb1))
  refine bodyPost_ret (v:=.tuple #[.agg #[.bool ((⟨false,none,0,0⟩ : IV)).s,.slice ((⟨false,none,0,0⟩ : IV)).a ((⟨false,none,0,0⟩ : IV)).n ((⟨false,none,0,0⟩ : IV)).cap],.int .i64 0]) (by simp [results,Tryz.results203,go_sem]) rfl ?_
  exact ⟨⟨⟨false,none,0,0⟩,0,rfl,IZ.zero _,by simp,by simp⟩,by exact bel⟩
 have hvp:=Dg.nf_pos h1.nf hl0 (by decide)
 have hs : x.s = false:=by
  cases hxs : x.s with
  | false=>rfl
  | true=>rw [hxs] at hu;simp [Dg.iv] at hu;omega
 have hut : (Dg.iv x.s (Dg.vl B32 l)).toNat = Dg.vl B32 l:=by rw [hs];simp [Dg.iv]
 rw [hut]
 have hlp : 0 < l.length:=List.length_pos_iff.2 hl0
 obtain ⟨n,hn⟩ : ∃ n,n = l.length / 2 + 1:=⟨_,rfl⟩
 have m1 : ¬ l.length = 0:=by omega
 have m2 : ¬ (l.length : Int) = 0:=by omega
 have m3 : ((l.length : Int) == 0) = false:=by simpa using hl0
 have hmk : ∀ w : World,(Instr.makeSlice 176 (.int .i64 ((l.length : Int) / 2 + 2)) (.int .i64 ((l.length : Int) / 2 + 2))).run Tryz.prog w = .ok (.slice (some ⟨w.heap.size,0,none⟩) (n + 1) (n + 1)) (w.alloc (.cells (madeCells #[.int .u32 0] (n + 1)) 138)):=fun w=>by
  have:=run_make_row' (P:=Tryz.prog) 176 138 (.int .u32 0) 4 Tryz.underlying176 u32Info rfl .i64 .i64 (n + 1) (by omega) (by omega) w
  rw [show ((n + 1 : Nat) : Int) = (l.length : Int) / 2 + 2 by omega] at this
  exact this
 have start : Hid (Dg.vl B32 l < (B32 ^ n + 1) * (B32 ^ n + 1)):=by
  refine Nat.lt_of_lt_of_le (Dg.vl_lt h1.nf.dg) (Nat.le_trans (Nat.pow_le_pow_right (n:=B32) (by decide) (show l.length≤n + n by omega)) ?_)
  rw [Nat.pow_add]
  exact Nat.mul_le_mul (Nat.le_succ _) (Nat.le_succ _)
 have DV:=Lib.hid (fun lb a b ca cb hb hb0 hca w h1' h2=>divide_any l lb a b ca cb h1.nf hb hb0 (by omega) hca w h1' h2)
 have MA:=Lib.hid (fun (k : List Nat) a c (hc : k.length≤c) (hk : Dg.NF B32 k) (hb : k.length≤3000000000000) w h=>made_any false k a c hb hc hk.dg w h)
 obtain ⟨s,a,p0,cap⟩:=x
 simp only [] at S1 DV hs
 subst hs
 clear h1 fu hu hut hl0 hvp
 generalize hq : l.length = q at *
 have HQ:=Lib.hid hq
 have HN:=0
 clear hq HN
 subst hn
 go_enter Tryz.func203,Tryz.ntmps203
 go_upto_region 7 with (first | (go_at_call 163;(with_reducible refine (S1.out _ ?_).mono ?_);(focus (exact H1.out.below (B:=w.heap.size) zb103 (Nat.le_refl _)));rintro e w1 ⟨rfl,hb1⟩;obtain ⟨g1,rfl⟩:=mob hb1;clear hb1))
 have RU:=RowU.made (more ((w.alloc (.cells #[.bool false,.slice a p0 cap] 62)).alloc (.cells #[.bool false,.slice none 0 0] 62)) g1) (q / 2 + 1 + 1)
 have HB:=Lib.hid RU
 have c0:=RU.cell (k:=q / 2 + 1) (by simp)
 have f0:=RU.frozen (q / 2 + 1)
 simp only [size_more_eq,World.size_alloc] at c0 f0
 clear RU hmk
 have hB0 : Below w.heap.size w (more ((w.alloc (.cells #[.bool false,.slice a p0 cap] 62)).alloc (.cells #[.bool false,.slice none 0 0] 62)) g1):=by exact bel
 have G0 : Hid (RC ((more ((w.alloc (.cells #[.bool false,.slice a p0 cap] 62)).alloc (.cells #[.bool false,.slice none 0 0] 62)) g1).alloc (.cells ((madeCells #[.int .u32 0] (q / 2 + 1 + 1)).setIfInBounds (q / 2 + 1) (.int .u32 1)) 138)) a l 300000000000 (B32 ^ (q / 2 + 1)) (some ⟨w.heap.size + 1 + 1 + g1.2.size,0,none⟩) ((List.replicate (q / 2 + 1 + 1) 0).set (q / 2 + 1) 1) (q / 2 + 1 + 1)):=by
  obtain ⟨n1,n2⟩:=nf_one_high (q / 2 + 1)
  refine ⟨H1.out.ws.below (hB0.trans (Below.alloc (Below.refl _ _) hB0.size _)) (Nat.le_refl _),?_,n1,by simp,by simp;omega,by rw [n2];exact Nat.pow_pos (by decide),by rw [n2];exact start.out,n2.symm⟩
  have:=(RowU.made_set (more ((w.alloc (.cells #[.bool false,.slice a p0 cap] 62)).alloc (.cells #[.bool false,.slice none 0 0] 62)) g1) (q / 2 + 1 + 1) (q / 2 + 1) 1 (by omega)).ws
  simp only [size_more_eq,World.size_alloc] at this
  exact this
 go_wp2_with fail
 clear hB0 start c0 f0 HB
 go_loopg [5] (B32 ^ (q / 2 + 1)) (fun k A wr=>∃ (a1 : Option Addr) (l1 : List Nat) (c1 : Nat),A = .slice a1 l1.length c1∧Ext ((more ((w.alloc (.cells #[.bool false,.slice a p0 cap] 62)).alloc (.cells #[.bool false,.slice none 0 0] 62)) g1).alloc (.cells ((madeCells #[.int .u32 0] (q / 2 + 1 + 1)).setIfInBounds (q / 2 + 1) (.int .u32 1)) 138)) wr∧Hid (RC wr a l 300000000000 k a1 l1 c1))
 case atStart=>exact ⟨_,_,q / 2 + 1 + 1,by simp,Ext.refl _,G0.out⟩
 case round =>
  obtain ⟨a1,l1,c1,rfl,hext,HG⟩:=hrel
  obtain ⟨gx,rfl⟩:=mob (Ext.below hext)
  clear hext G0
  have PL : Hid (∀ (k m : List Nat) (a b : Option Addr) (c cb : Nat),Dg.NF B32 k→Dg.NF B32 m→k.length≤300000000000→m.length≤300000000000→∀ w,WS w a k→WS w b m→Calls Tryz.prog 194 #[.slice a k.length c,.slice b m.length cb] w fun e w'=>WRes w' e (Dg.vl B32 k + Dg.vl B32 m)∧Below w.heap.size w w') :=
   fun k m a b c cb hk hm bk bm w ha hb=>plus_any k m a b c cb hk.dg hm.dg (by omega) (by omega) w ha hb
  have SH : Hid (∀ (k : List Nat) (a : Option Addr) (c : Nat),Dg.NF B32 k→k.length≤1000000000000→∀ w,WS w a k→Calls Tryz.prog 209 #[.slice a k.length c,.int .u32 2] w fun e w'=>(∃ a' l',e = .returned (.tuple #[.slice a' l'.length l'.length,.int .u32 ((Dg.vl B32 k % 2 : Nat) : Int)])∧WS w' a' l'∧Dg.NF B32 l'∧Dg.vl B32 l' = Dg.vl B32 k / 2)∧Below w.heap.size w w') :=
   fun k a c hk bk w ha=>short_any k a c 2 (by omega) hk.dg bk w ha
  have CM:=Lib.hid (fun (k m : List Nat) (a b : Option Addr) (c cb : Nat) (hk : Dg.NF B32 k) (hm : Dg.NF B32 m) (bk : k.length≤3000000000000) w ha hb=>compare_any k m a b c cb hk hm bk w ha hb)
  have hne : l1 ≠ []:=fun e=>by have:=HG.out.p;rw [e] at this;simp [Dg.vl] at this
  have DV1:=Lib.hid (DV.out l1 a a1 q c1 HG.out.n1 hne (Nat.le_refl _) _ HG.out.w0 HG.out.w1)
  clear DV hne
  obtain ⟨U,hU⟩ : ∃ U,U = (Dg.vl B32 l1 + Dg.vl B32 l / Dg.vl B32 l1) / 2:=⟨_,rfl⟩
  have UP : Hid (Dg.vl B32 l < (U + 1) * (U + 1)):=by rw [hU];exact newton_up HG.out.p
  have UE : Hid (Dg.vl B32 l1≤U→Dg.vl B32 l1 * Dg.vl B32 l1≤Dg.vl B32 l):=by rw [hU];exact newton_end
  have U0 : Hid (0 < U):=by
   have h1:=HG.out.p;have h2:=UP.out
   rcases Nat.eq_zero_or_pos U with h3 | h3
   ·rw [h3] at h2
    have h4 : Dg.vl B32 l = 0:=by omega
    exact absurd (Dg.nf_pos H1.out.nf (fun e=>by have:=HQ.out;rw [e] at this;simp at this;omega) (by decide)) (by omega)
   ·exact h3
  have HU:=Lib.hid hU
  clear hU
  by_cases hlt : U < Dg.vl B32 l1
  ·have cz : cmpN U (Dg.vl B32 l1) = -1:=by unfold cmpN;rw [if_pos hlt]
   have CZ:=Lib.hid cz
   have HLT:=Lib.hid hlt
   clear cz hlt
   go_wp2_with (first | (go_at_call 193;(with_reducible refine (DV1.out).mono ?_);rintro e w3 ⟨a3,l3,c3,a4,l4,c4,rfl,d1,d2,d3,d4,d5,d6,d7,d8,hb3⟩;have D:=Lib.hid (And.intro d1 (And.intro d3 (And.intro d5 d7)));clear d1 d2 d3 d4 d5 d6 d7 d8;have HB3:=Lib.hid hb3;obtain ⟨g3,rfl⟩:=mob hb3;clear hb3) | (go_at_call 194;(with_reducible refine (PL.out l1 l3 a1 a3 c1 c3 HG.out.n1 D.out.2.2.1 HG.out.b1 ?_ _ ?_ ?_).mono ?_);(focus (refine Nat.le_trans (vl_mono_len D.out.2.2.1 H1.out.nf.dg ?_) ?_;(focus (rw [D.out.2.2.2];exact Nat.div_le_self _ _));(focus (rw [HQ.out];omega))));(focus (exact HG.out.w1.below HB3.out (Nat.le_refl _)));(focus (exact D.out.2.1));rintro e w5 ⟨⟨a5,l5,rfl,r1,r2,r3⟩,hb5⟩;have R5:=Lib.hid (And.intro r1 (And.intro r2 r3));clear r1 r2 r3;have HB5:=Lib.hid (HB3.out.trans (hb5.mono HB3.out.size));obtain ⟨g5,rfl⟩:=mob hb5;clear hb5) | (go_at_call 209;(with_reducible refine (SH.out l5 a5 l5.length R5.out.2.1 ?_ _ R5.out.1).mono ?_);(focus (have h5:=sum_lt (Dg.vl_lt HG.out.n1.dg) (Dg.vl_lt D.out.2.2.1.dg);rw [← R5.out.2.2] at h5;have h6:=len_le R5.out.2.1 h5;have h7:=HG.out.b1;have h8 : l3.length≤q:=zb47;omega));rintro e w6 ⟨⟨a6,l6,rfl,r1,r2,r3⟩,hb6⟩;rw [R5.out.2.2,D.out.2.2.2,← HU.out] at r3;have R6:=Lib.hid (And.intro r1 (And.intro r2 r3));clear r1 r2 r3;have HB6:=Lib.hid (HB5.out.trans (hb6.mono HB5.out.size));obtain ⟨g6,rfl⟩:=mob hb6;clear hb6) | (go_at_call 208;(with_reducible refine (CM.out l6 l1 a6 a1 l6.length c1 R6.out.2.1 HG.out.n1 ?_ _ R6.out.1 (HG.out.w1.below HB6.out (Nat.le_refl _))).mono ?_);(focus (have h9:=vl_mono_len R6.out.2.1 HG.out.n1.dg (by rw [R6.out.2.2];exact Nat.le_of_lt HLT.out);have:=HG.out.b1;omega));rintro e w7 ⟨rfl,hb7⟩;rw [R6.out.2.2,CZ.out];have R7:=Lib.hid (R6.out.1.below hb7 (Nat.le_refl _));have HB7:=Lib.hid (HB6.out.trans (hb7.mono HB6.out.size));obtain ⟨g7,rfl⟩:=mob hb7;clear hb7))
   go_roundg U
   case measure=>rw [HG.out.k];exact HLT.out
   case rel=>exact ⟨a6,l6,l6.length,rfl,ext_mk zb103,HG.out.w0.below HB7.out (Nat.le_refl _),R7.out,R6.out.2.1,Nat.le_refl _,Nat.le_trans (vl_mono_len R6.out.2.1 HG.out.n1.dg (by rw [R6.out.2.2];exact Nat.le_of_lt HLT.out)) HG.out.b1,by rw [R6.out.2.2];exact U0.out,by rw [R6.out.2.2];exact UP.out,R6.out.2.2.symm⟩
  ·obtain ⟨C,hC0,hC⟩ : ∃ C : Int,0≤C∧cmpN U (Dg.vl B32 l1) = C:=⟨_,by unfold cmpN;rw [if_neg hlt];split <;> decide,rfl⟩
   have CZ:=Lib.hid hC
   have HE:=Lib.hid (UE.out (Nat.le_of_not_lt hlt))
   have hC1 : decide ((0 : Int)≤C) = true:=by rw [decide_eq_true_iff];exact hC0
   clear hC hlt
   go_wp2_with (first | (go_at_call 193;(with_reducible refine (DV1.out).mono ?_);rintro e w3 ⟨a3,l3,c3,a4,l4,c4,rfl,d1,d2,d3,d4,d5,d6,d7,d8,hb3⟩;have D:=Lib.hid (And.intro d1 (And.intro d3 (And.intro d5 d7)));clear d1 d2 d3 d4 d5 d6 d7 d8;have HB3:=Lib.hid hb3;obtain ⟨g3,rfl⟩:=mob hb3;clear hb3) | (go_at_call 194;(with_reducible refine (PL.out l1 l3 a1 a3 c1 c3 HG.out.n1 D.out.2.2.1 HG.out.b1 ?_ _ ?_ ?_).mono ?_);(focus (refine Nat.le_trans (vl_mono_len D.out.2.2.1 H1.out.nf.dg ?_) ?_;(focus (rw [D.out.2.2.2];exact Nat.div_le_self _ _));(focus (rw [HQ.out];omega))));(focus (exact HG.out.w1.below HB3.out (Nat.le_refl _)));(focus (exact D.out.2.1));rintro e w5 ⟨⟨a5,l5,rfl,r1,r2,r3⟩,hb5⟩;have R5:=Lib.hid (And.intro r1 (And.intro r2 r3));clear r1 r2 r3;have HB5:=Lib.hid (HB3.out.trans (hb5.mono HB3.out.size));obtain ⟨g5,rfl⟩:=mob hb5;clear hb5) | (go_at_call 209;(with_reducible refine (SH.out l5 a5 l5.length R5.out.2.1 ?_ _ R5.out.1).mono ?_);(focus (have h5:=sum_lt (Dg.vl_lt HG.out.n1.dg) (Dg.vl_lt D.out.2.2.1.dg);rw [← R5.out.2.2] at h5;have h6:=len_le R5.out.2.1 h5;have h7:=HG.out.b1;have h8 : l3.length≤q:=zb47;omega));rintro e w6 ⟨⟨a6,l6,rfl,r1,r2,r3⟩,hb6⟩;rw [R5.out.2.2,D.out.2.2.2,← HU.out] at r3;have R6:=Lib.hid (And.intro r1 (And.intro r2 r3));clear r1 r2 r3;have HB6:=Lib.hid (HB5.out.trans (hb6.mono HB5.out.size));obtain ⟨g6,rfl⟩:=mob hb6;clear hb6) | (go_at_call 208;(with_reducible refine (CM.out l6 l1 a6 a1 l6.length c1 R6.out.2.1 HG.out.n1 ?_ _ R6.out.1 (HG.out.w1.below HB6.out (Nat.le_refl _))).mono ?_);(focus (have h9:=vl_mono_len R6.out.2.1 R5.out.2.1.dg (by rw [R6.out.2.2,R5.out.2.2,D.out.2.2.2,HU.out];exact Nat.div_le_self _ _);have h5:=sum_lt (Dg.vl_lt HG.out.n1.dg) (Dg.vl_lt D.out.2.2.1.dg);rw [← R5.out.2.2] at h5;have h6:=len_le R5.out.2.1 h5;have h7:=HG.out.b1;have h8 : l3.length≤q:=zb47;omega));rintro e w7 ⟨rfl,hb7⟩;rw [R6.out.2.2,CZ.out];have R7:=Lib.hid (R6.out.1.below hb7 (Nat.le_refl _));have HB7:=Lib.hid (HB6.out.trans (hb7.mono HB6.out.size));obtain ⟨g7,rfl⟩:=mob hb7;clear hb7) | (go_at_call 162;(with_reducible refine (MA.out l1 a1 c1 HG.out.h1 HG.out.n1 (by have:=HG.out.b1;omega) _ (HG.out.w1.below HB7.out (Nat.le_refl _))).mono ?_);rintro e w8 ⟨⟨y,rfl,hy⟩,hb8⟩;have HY:=Lib.hid (show IZ w8 y ((Dg.vl B32 l1 : Nat) : Int) from hy);clear hy;obtain ⟨g8,rfl⟩:=mob hb8;clear hb8))
   refine bodyPost_ret (v:=.tuple #[.agg #[.bool y.s,.slice y.a y.n y.cap],.int .i64 0]) (by simp [results,Tryz.results203,go_sem]) rfl ?_
   exact ⟨⟨y,_,rfl,IZ.off' HY.out (by exact off1),HE.out,HG.out.u⟩,by exact bel⟩
end Go.Proofs.YtcgjmdpcplhanaaGreat
namespace Go.Proofs.YtcgjmdpcplhanaaGreat
open Go.RowKit
namespace CI
def bnd (z : Int) : Bool:=Nat.blt z.natAbs 1208925819614629174706176
def i64 (n : Int) : C:=.sc (.int .i64 n)
def o1 (f : Int→Option C) : Orc:=fun l=>match l with
 | [a]=>match asNm a with
  | some z=>match bnd z with
   | true=>f z
   | false=>none
  | none=>none
 | _=>none
def o2 (f : Int→Int→Option C) : Orc:=fun l=>match l with
 | [a,b]=>match asNm a with
  | some y=>match asNm b with
   | some z=>match bnd y with
    | true=>match bnd z with
     | true=>f y z
     | false=>none
    | false=>none
   | none=>none
  | none=>none
 | _=>none
def sg (z : Int) : Int:=match z with | .negSucc _=>-1 | .ofNat 0=>0 | .ofNat (_ + 1)=>1
def sqf : Nat→Nat→Nat→Nat
 | 0,_,r=>r
 | f + 1,n,r=>match Nat.ble ((r + 1) * (r + 1)) n with
  | true=>sqf f n (r + 1)
  | false=>r
def isz (z : Int) : Bool:=match z with | .ofNat 0=>true | _=>false
def oAdd : Orc:=o2 fun a b=>some (.nm (a + b))
def oSub : Orc:=o2 fun a b=>some (.nm (a - b))
def oMul : Orc:=o2 fun a b=>some (.nm (a * b))
def oDivMod : Orc:=o2 fun a b=>match isz b with | true=>none | false=>some (.tp [.nm (a / b),.nm (a % b),i64 0])
def oCmp : Orc:=o2 fun a b=>some (i64 (sg (a - b)))
def oGcd : Orc:=o2 fun a b=>some (.nm (Int.gcd a b))
def oOf : Orc:=fun l=>match l with
 | [.sc (.int .i64 n)]=>match Nat.blt n.natAbs 4611686018427387904 with
  | true=>some (.nm n)
  | false=>none
 | _=>none
def oSmall : Orc:=o1 fun a=>match Nat.blt a.natAbs 4611686018427387904 with
 | true=>some (.tp [i64 a,.sc (.bool true)])
 | false=>none
def oNormal : Orc:=o1 fun a=>some (.nm a)
def rt (n r : Nat) : Option C:=match Nat.ble (r * r) n with
  | true=>match Nat.blt n ((r + 1) * (r + 1)) with
   | true=>some (.tp [.nm r,i64 0])
   | false=>none
  | false=>none
def oRoot : Orc:=o1 fun a=>match a with
 | .ofNat n=>rt n (sqf 10000 n 0)
 | _=>none
def oZero : Orc:=o1 fun a=>some (.sc (.bool (isz a)))
def oSign : Orc:=o1 fun a=>some (i64 (sg a))
def oNeg : Orc:=o1 fun a=>some (.nm (-a))
def oSize : Orc:=o1 fun a=>some (.nm a.natAbs)
def oQuo : Orc:=o2 fun a b=>match isz b with | true=>none | false=>some (.nm (a / b))
def lookO : List (Nat × Orc)→Nat→Option Orc
 | [],_=>none
 | (k,o) :: l,n=>match Nat.beq k n with | true=>some o | false=>lookO l n
def orcT : List (Nat × Orc):=[(190,oAdd),(159,oSub),(117,oMul),(167,oDivMod),(161,oCmp),(165,oGcd),(124,oOf),(120,oSmall),(112,oNormal),(203,oRoot),(95,oZero),(101,oSign),(102,oNeg),(185,oSize),(121,oQuo)]
def theE (P : Program) : Env:=⟨compF P,lookO orcT⟩
theorem theE_fns (P : Program) : (theE P).fns = compF P:=rfl
theorem fit_of_bnd {z : Int} (h : bnd z = true) : Fit z:=by
 unfold bnd at h
 rw [Nat.blt_eq] at h
 exact ⟨3,by omega,Nat.lt_trans h (by decide)⟩
section
variable {P : Program} {A : Nat→Prop} {ρ : Nat→Nat} {w : World}
theorem asNm_iz {c : C} {z : Int} {v : Value} (h : asNm c = some z) (hv : VR P A ρ w c v) : ∃ x : IV,v = .agg #[.bool x.s,.slice x.a x.n x.cap]∧IZ w x z:=by
 unfold asNm at h
 split at h
 ·cases h
  simp only [VR] at hv
  exact hv
 ·cases h
  simp only [VR,VCs] at hv
  obtain ⟨cs,rfl,h1,u,r,h2,⟨h3,_⟩,h4,u2,r2,h5,⟨h6,_⟩,h7⟩:=hv
  subst h3;subst h6;subst h7;subst h5
  refine ⟨⟨false,none,0,0⟩,?_,IZ.zero w⟩
  have : cs = #[.bool false,.slice none 0 0]:=by apply Array.ext';rw [h2];rfl
  rw [this]
 ·cases h
def Ans (P : Program) (g : Nat) (vs : Array Value) (w : World) (c : C) : Prop:=Calls P g vs w (fun e w'=>∃ u,e = .returned u∧(∀ A ρ,VR P A ρ w' c u)∧Below w.heap.size w w')
theorem Ans.calls {g : Nat} {vs : Array Value} {c : C} (h : Ans P g vs w c) (A : Nat→Prop) (ρ : Nat→Nat) : Calls P g vs w (fun e w'=>∃ u,e = .returned u∧VR P A ρ w' c u∧Below w.heap.size w w'):=by
 unfold Ans at h
 refine h.mono ?_
 rintro e w' ⟨u,h1,h2,h3⟩
 exact ⟨u,h1,h2 A ρ,h3⟩
theorem o1_ok {g : Nat} {f : Int→Option C} (hE : Enters P g) (H : ∀ (x : IV) (z : Int) (w : World) (c : C),Fit z→IZ w x z→f z = some c→Ans P g #[.agg #[.bool x.s,.slice x.a x.n x.cap]] w c) :
  ∀ args r,o1 f args = some r→∀ A ρ w vs,VRl P A ρ w args vs.toList→Enters P g∧Calls P g vs w (fun e w'=>∃ u,e = .returned u∧VR P A ρ w' r u∧Below w.heap.size w w'):=by
 intro args r e A ρ w vs hv
 refine ⟨hE,?_⟩
 unfold o1 at e
 split at e
 ·next a =>
  split at e
  ·next z hz =>
   split at e
   ·next hb =>
    simp only [VRl] at hv
    obtain ⟨u,r',h1,h2,h3⟩:=hv
    subst h3
    obtain ⟨x,rfl,hx⟩:=asNm_iz hz h2
    have : vs = #[.agg #[.bool x.s,.slice x.a x.n x.cap]]:=by apply Array.ext';rw [h1]
    rw [this]
    exact (H x z w r (fit_of_bnd hb) hx e).calls A ρ
   ·cases e
  ·cases e
 ·cases e
theorem o2_ok {g : Nat} {f : Int→Int→Option C} (hE : Enters P g) (H : ∀ (x y : IV) (u v : Int) (w : World) (c : C),Fit u→Fit v→IZ w x u→IZ w y v→f u v = some c→Ans P g #[.agg #[.bool x.s,.slice x.a x.n x.cap],.agg #[.bool y.s,.slice y.a y.n y.cap]] w c) :
  ∀ args r,o2 f args = some r→∀ A ρ w vs,VRl P A ρ w args vs.toList→Enters P g∧Calls P g vs w (fun e w'=>∃ u,e = .returned u∧VR P A ρ w' r u∧Below w.heap.size w w'):=by
 intro args r e A ρ w vs hv
 refine ⟨hE,?_⟩
 unfold o2 at e
 split at e
 ·next a b =>
  split at e
  ·next y hy =>
   split at e
   ·next z hz =>
    split at e
    ·next hb =>
     split at e
     ·next hb2 =>
      simp only [VRl] at hv
      obtain ⟨u,r',h1,h2,u2,r2,h4,h5,h3⟩:=hv
      subst h3;subst h4
      obtain ⟨x,rfl,hx⟩:=asNm_iz hy h2
      obtain ⟨x2,rfl,hx2⟩:=asNm_iz hz h5
      have : vs = #[.agg #[.bool x.s,.slice x.a x.n x.cap],.agg #[.bool x2.s,.slice x2.a x2.n x2.cap]]:=by apply Array.ext';rw [h1]
      rw [this]
      exact (H x x2 y z w r (fit_of_bnd hb) (fit_of_bnd hb2) hx hx2 e).calls A ρ
     ·cases e
    ·cases e
   ·cases e
  ·cases e
 ·cases e
theorem vr_nm {z : Int} {x : IV} (h : IZ w x z) (A : Nat→Prop) (ρ : Nat→Nat) : VR P A ρ w (.nm z) (.agg #[.bool x.s,.slice x.a x.n x.cap]):=by
 simp only [VR];exact ⟨x,rfl,h⟩
theorem vr_i64 (n : Int) (A : Nat→Prop) (ρ : Nat→Nat) : VR P A ρ w (i64 n) (.int .i64 n):=by
 simp only [i64,VR];exact ⟨trivial,rfl⟩
theorem vr_bool (b : Bool) (A : Nat→Prop) (ρ : Nat→Nat) : VR P A ρ w (.sc (.bool b)) (.bool b):=by
 simp only [VR];exact ⟨trivial,rfl⟩
theorem ans_nm {g : Nat} {vs : Array Value} {z : Int} (h : Calls P g vs w fun e w'=>(∃ x : IV,e = .returned (.agg #[.bool x.s,.slice x.a x.n x.cap])∧IZ w' x z)∧Below w.heap.size w w') : Ans P g vs w (.nm z):=by
 unfold Ans
 refine h.mono ?_
 rintro e w' ⟨⟨x,rfl,hx⟩,hb⟩
 exact ⟨_,rfl,vr_nm hx,hb⟩
theorem ans_i64 {g : Nat} {vs : Array Value} {z : Int} (h : Calls P g vs w fun e w'=>e = .returned (.int .i64 z)∧Below w.heap.size w w') : Ans P g vs w (i64 z):=by
 unfold Ans
 refine h.mono ?_
 rintro e w' ⟨rfl,hb⟩
 exact ⟨_,rfl,vr_i64 z,hb⟩
end
theorem sg_eq (z : Int) : sg z = sgn z:=by
 unfold sg sgn
 split
 ·next n =>
  have h : Int.negSucc n < 0:=Int.negSucc_lt_zero n
  generalize Int.negSucc n = z at *
  rw [if_neg (by omega),if_pos (by omega)]
 ·rfl
 ·next n =>
  have h : (0 : Int) < Int.ofNat (n + 1):=Int.natCast_pos.2 (Nat.succ_pos n)
  generalize Int.ofNat (n + 1) = z at *
  rw [if_neg (by omega),if_neg (by omega)]
theorem isz_eq (z : Int) : isz z = decide (z = 0):=by
 unfold isz
 split
 ·rfl
 ·next h =>
  symm
  rw [decide_eq_false_iff_not]
  intro e
  exact h e
theorem isz_ne {z : Int} (h : isz z = false) : z ≠ 0:=by
 rw [isz_eq] at h;simpa using h
theorem root_uniq {n r s : Nat} (h1 : r * r≤n) (h2 : n < (r + 1) * (r + 1)) (h3 : s * s≤n) (h4 : n < (s + 1) * (s + 1)) : r = s:=by
 have k1 : r < s + 1:=Nat.lt_of_not_le fun h=>by have:=Nat.mul_le_mul h h;omega
 have k2 : s < r + 1:=Nat.lt_of_not_le fun h=>by have:=Nat.mul_le_mul h h;omega
 omega
theorem lookO_mem : ∀ {l : List (Nat × Orc)} {n : Nat} {o : Orc},lookO l n = some o→(n,o) ∈ l
 | [],_,_,h=>by cases h
 | (k,o') :: l,n,o,h=>by
  unfold lookO at h
  split at h
  ·next hb =>
   cases h
   rw [Nat.eq_of_beq_eq_true hb]
   exact List.mem_cons_self
  ·exact List.mem_cons_of_mem _ (lookO_mem h)
theorem orcs_ok : OrcOK Tryz.prog (theE Tryz.prog) := by
  intro g f hg
  have hm := lookO_mem (show lookO orcT g = some f from hg)
  simp only [orcT, List.mem_cons, Prod.mk.injEq, List.not_mem_nil, or_false] at hm
  rcases hm with ⟨rfl, rfl⟩ | ⟨rfl, rfl⟩ | ⟨rfl, rfl⟩ | ⟨rfl, rfl⟩ | ⟨rfl, rfl⟩ | ⟨rfl, rfl⟩ | ⟨rfl, rfl⟩ | ⟨rfl, rfl⟩ | ⟨rfl, rfl⟩ | ⟨rfl, rfl⟩ | ⟨rfl, rfl⟩ | ⟨rfl, rfl⟩ | ⟨rfl, rfl⟩ | ⟨rfl, rfl⟩ | ⟨rfl, rfl⟩
  · exact o2_ok (enters_of Tryz.func190 (by kernel_rfl) rfl) fun x y u v w c fu fv hx hy e => by
      cases e; exact ans_nm (add_any x y u v fu fv w hx.ip hy.ip)
  · exact o2_ok (enters_of Tryz.func159 (by kernel_rfl) rfl) fun x y u v w c fu fv hx hy e => by
      cases e; exact ans_nm (sub_any x y u v fu fv w hx.ip hy.ip)
  · exact o2_ok (enters_of Tryz.func117 (by kernel_rfl) rfl) fun x y u v w c fu fv hx hy e => by
      cases e; exact ans_nm (mul_any x y u v fu fv w hx.ip hy.ip)
  · exact o2_ok (enters_of Tryz.func167 (by kernel_rfl) rfl) fun x y u v w c fu fv hx hy e => by
      split at e
      · cases e
      · next hz =>
        cases e
        have hv := isz_ne hz
        unfold Ans
        refine (divmod_any x y u v fu fv w hx.ip hy.ip).mono ?_
        rintro e w' ⟨q, r, rfl, h1, h2, hb⟩
        rw [if_neg hv] at h2
        refine ⟨_, rfl, fun A ρ => ?_, hb⟩
        rw [if_neg hv]
        simp only [VR, VRl]
        exact ⟨_, rfl, _, _, rfl, ⟨q, rfl, h1⟩, _, _, rfl, ⟨r, rfl, h2⟩, _, _, rfl, vr_i64 0 A ρ, rfl⟩
  · exact o2_ok (enters_of Tryz.func161 (by kernel_rfl) rfl) fun x y u v w c fu fv hx hy e => by
      cases e; rw [sg_eq]; exact ans_i64 (cmp_any x y u v fu fv w hx.ip hy.ip)
  · exact o2_ok (enters_of Tryz.func165 (by kernel_rfl) rfl) fun x y u v w c fu fv hx hy e => by
      cases e; exact ans_nm (gcd_any x y u v fu fv w hx.ip hy.ip)
  · intro args r e A ρ w vs hv
    refine ⟨enters_of Tryz.func124 zb101 rfl, ?_⟩
    unfold oOf at e
    split at e
    · next n =>
      split at e
      · next hb =>
        cases e
        rw [Nat.blt_eq] at hb
        simp only [VRl, VR] at hv
        obtain ⟨u, r', h1, ⟨rfl, _⟩, h3⟩ := hv
        subst h3
        have : vs = #[.int .i64 n] := by apply Array.ext'; rw [h1]
        rw [this]
        exact (ans_nm (intOf_any n (by omega) w)).calls A ρ
      · cases e
    · cases e
  · exact o1_ok (enters_of Tryz.func120 (by kernel_rfl) rfl) fun x z w c fz hx e => by
      split at e
      · next hb =>
        cases e
        rw [Nat.blt_eq] at hb
        have hI : I64 z := by unfold I64; omega
        unfold Ans
        refine (small_any x z fz w hx.ip).mono ?_
        rintro e w' ⟨rfl, hb⟩
        refine ⟨_, rfl, fun A ρ => ?_, hb⟩
        rw [show smv z = z from if_pos hI, show decide (I64 z) = true from decide_eq_true hI]
        simp only [VR, VRl]
        exact ⟨_, rfl, _, _, rfl, vr_i64 z A ρ, _, _, rfl, ⟨rfl, rfl⟩, rfl⟩
      · cases e
  · exact o1_ok (enters_of Tryz.func112 (by kernel_rfl) rfl) fun x z w c fz hx e => by
      cases e
      obtain ⟨l, h1, rfl⟩ := hx.ip
      have bl := fit_len h1.nf fz
      exact ans_nm (normal_any x l (by omega) w h1)
  · exact o1_ok (enters_of Tryz.func203 (by kernel_rfl) rfl) fun x z w c fz hx e => by
      split at e
      · next n =>
        generalize sqf 10000 n 0 = r at e
        unfold rt at e
        split at e
        · next h1 =>
          split at e
          · next h2 =>
            cases e
            have k1 := Nat.le_of_ble_eq_true h1
            rw [Nat.blt_eq] at h2
            unfold Ans
            refine (root_any x _ fz (Int.natCast_nonneg n) w hx.ip).mono ?_
            rintro e w' ⟨⟨y, s, rfl, hy, h3, h4⟩, hb⟩
            have : s = r := root_uniq h3 h4 k1 h2
            subst this
            refine ⟨_, rfl, fun A ρ => ?_, hb⟩
            simp only [VR, VRl]
            exact ⟨_, rfl, _, _, rfl, ⟨y, rfl, hy⟩, _, _, rfl, vr_i64 0 A ρ, rfl⟩
          · cases e
        · cases e
      · cases e
  · exact o1_ok (enters_of Tryz.func95 (by kernel_rfl) rfl) fun x z w c fz hx e => by
      cases e
      rw [isz_eq]
      unfold Ans
      refine (wzero_any x z w hx).mono ?_
      rintro e w' ⟨rfl, hb⟩
      exact ⟨_, rfl, fun A ρ => vr_bool _ A ρ, hb⟩
  · exact o1_ok (enters_of Tryz.func101 (by kernel_rfl) rfl) fun x z w c fz hx e => by
      cases e; rw [sg_eq]; exact ans_i64 (wsign_any x z fz w hx.ip)
  · exact o1_ok (enters_of Tryz.func102 (by kernel_rfl) rfl) fun x z w c fz hx e => by
      cases e; exact ans_nm (wneg_any x z fz w hx.ip)
  · exact o1_ok (enters_of Tryz.func185 (by kernel_rfl) rfl) fun x z w c fz hx e => by
      cases e; exact ans_nm (wsize_any x z fz w hx.ip)
  · exact o2_ok (enters_of Tryz.func121 (by kernel_rfl) rfl) fun x y u v w c fu fv hx hy e => by
      split at e
      · cases e
      · cases e; exact ans_nm (wquo_any x y u v fu fv w hx.ip hy.ip)
end CI
end Go.Proofs.YtcgjmdpcplhanaaGreat
namespace Go.Proofs.YtcgjmdpcplhanaaGreat
open Go.RowKit
namespace CI
def isTrue : Option Out→Bool
 | some (.val (.sc (.bool true)) _)=>true
 | _=>false
theorem of_isTrue {o : Option Out} (h : isTrue o = true) : ∃ h',o = some (.val (.sc (.bool true)) h'):=by
 unfold isTrue at h
 split at h
 ·exact ⟨_,rfl⟩
 ·cases h
set_option maxRecDepth 100000 in
theorem awake_run : isTrue (run (theE Tryz.prog) 3000 (.call (.fn 15 []) [] ⟨0,0,[],.e⟩)) = true:=by kernel_rfl
theorem awake_any (w : World) : Calls Tryz.prog 15 #[] w (fun e w'=>e = .returned (.bool true)∧Below w.heap.size w w'):=by
 obtain ⟨h',e⟩:=of_isTrue awake_run
 refine (run_calls zb101 orcs_ok (theE_fns _) (enters_of Tryz.func15 zb101 rfl) e w).mono ?_
 rintro e w' ⟨u,A,ρ,rfl,h1,_,h2⟩
 simp only [VR] at h1
 exact ⟨by rw [h1.1],h2⟩
end CI
end Go.Proofs.YtcgjmdpcplhanaaGreat
namespace Go.Proofs.YtcgjmdpcplhanaaGreat
open Go.RowKit
namespace DW
theorem awake_d : Fn Tryz.prog 15 [] (.sc (.bool true)):=by
 refine ⟨enters_of Tryz.func15 zb101 rfl,fun X w vs _ hv=>?_⟩
 simp only [ATp] at hv
 have : vs = #[]:=Array.toList_inj.1 hv
 subst this
 refine (CI.awake_any w).mono fun e w' ⟨h,hb⟩=>⟨_,h,?_,hb⟩
 simp only [AR];exact ⟨trivial,rfl⟩
set_option maxRecDepth 20000
set_option maxHeartbeats 2000000
end DW
end Go.Proofs.YtcgjmdpcplhanaaGreat
namespace Go.Proofs.YtcgjmdpcplhanaaGreat
namespace Mx
theorem at_take_lt {A : Mat} {r i j : Nat} (h : i < r) : at' (A.take r) i j = at' A i j:=by
 unfold at' rw
 rw [List.getD_eq_getElem?_getD,List.getD_eq_getElem?_getD,List.getElem?_take,if_pos h,← List.getD_eq_getElem?_getD,← List.getD_eq_getElem?_getD]
theorem at_take_ge {A : Mat} {r i j : Nat} (h : ¬ i < r) : at' (A.take r) i j = 0:=by
 have : rw (A.take r) i = []:=by
  unfold rw
  rw [List.getD_eq_getElem?_getD,List.getElem?_take,if_neg h]
  rfl
 unfold at'
 rw [this]
 rfl
theorem HF.take : ∀ (A : Mat) (r : Nat),HF A→HF (A.take r)
 | _,0,_=>trivial
 | [],_ + 1,_=>trivial
 | a :: A,r + 1,h=>by
  have hz : ∀ i j,at' (a :: A) i j = 0→at' (a :: A.take r) i j = 0:=fun i j h=>by
   show at' ((a :: A).take (r + 1)) i j = 0
   by_cases hi : i < r + 1
   ·rw [at_take_lt hi];exact h
   ·exact at_take_ge hi
  have hz2 : ∀ i j,at' A i j = 0→at' (A.take r) i j = 0:=fun i j h=>by
   by_cases hi : i < r
   ·rw [at_take_lt hi];exact h
   ·exact at_take_ge hi
  rcases h with h | ⟨p,h1,h2,h3,h4,h5⟩
  ·exact .inl fun i j=>hz i j (h i j)
  ·refine .inr ⟨p,fun i j hj=>hz i j (h1 i j hj),h2,fun i=>hz2 i p (h3 i),HF.take A r h4,fun i q k1 k2=>?_⟩
   have hi : i < r:=Classical.byContradiction fun hi=>k2 (at_take_ge hi)
   rw [at_take_lt hi] at k2 ⊢
   exact h5 i q (fun j hj=>by rw [← at_take_lt (r:=r) hi];exact k1 j hj) k2
theorem HF.div {g : Int} (hg : 0 < g) : ∀ (A B : Mat),A.length = B.length→(∀ i j,at' A i j = g * at' B i j)→HF A→HF B
 | _,[],_,_,_=>trivial
 | [],b :: B,hl,_,_=>by simp at hl
 | a :: A,b :: B,hl,h,hA=>by
  have h0 : ∀ j,a.getD j 0 = g * b.getD j 0:=fun j=>h 0 j
  have ht : ∀ i j,at' A i j = g * at' B i j:=fun i j=>h (i + 1) j
  have hz : ∀ {x : Int},g * x = 0→x = 0:=fun e=>by
   rcases Int.mul_eq_zero.1 e with e | e
   ·omega
   ·exact e
  rcases hA with hA | ⟨p,h1,h2,h3,h4,h5⟩
  ·exact .inl fun i j=>hz (by rw [← h i j];exact hA i j)
  ·refine .inr ⟨p,fun i j hj=>hz (by rw [← h i j];exact h1 i j hj),?_,fun i=>hz (by rw [← ht i p];exact h3 i),HF.div hg A B zb96 ht h4,fun i q k1 k2=>?_⟩
   ·rw [h0] at h2
    exact Int.lt_of_mul_lt_mul_left (a:=g) (by rw [Int.mul_zero];exact h2) (by omega)
   ·have h6:=h5 i q (fun j hj=>by rw [ht,k1 j hj,Int.mul_zero]) (by rw [ht];exact fun e=>k2 (hz e))
    rw [h0,ht] at h6
    exact ⟨Int.le_of_mul_le_mul_left (a:=g) (by rw [Int.mul_zero];exact h6.1) hg,Int.lt_of_mul_lt_mul_left (a:=g) h6.2 (by omega)⟩
theorem nH_hf {n : Nat} {M : Mat} (h : Rc n M) : HF (nH n M):=by
 obtain ⟨pv,he⟩:=red_ech n 0 (0,M) id h (ech_start M)
 rw [Nat.zero_add] at he
 have h2:=ech_hf ((red_re n 0 (0,M) h).rc h) he (red n 0 (0,M)).2.length 0 (Nat.zero_add _).symm
 rw [List.drop_zero] at h2
 exact HF.take _ _ h2
theorem nH_nz {n : Nat} {M : Mat} (h : Rc n M) : ∀ l ∈ nH n M,l.all (fun z=>decide (z = 0)) = false:=fun l hl=>by
 rw [← fil_red h] at hl
 unfold DW.fil at hl
 have:=(List.mem_filter.1 hl).2
 simpa using this
theorem nH_self {n : Nat} {X : Mat} (h : Rc n X) (hf : HF X) (hz : ∀ l ∈ X,l.all (fun z=>decide (z = 0)) = false) : nH n X = X:=by
 obtain ⟨pv,he⟩:=red_ech n 0 (0,X) id h (ech_start X)
 rw [Nat.zero_add] at he
 have hre:=red_re n 0 (0,X) h
 have h2:=ech_hf (hre.rc h) he (red n 0 (0,X)).2.length 0 (Nat.zero_add _).symm
 rw [List.drop_zero] at h2
 have hs:=hre.sp h
 have:=hf_uniq (red n 0 (0,X)).2 X hre.len (hre.rc h) h h2 hf hs.1 hs.2
 rw [← fil_red h,this]
 exact fil_all hz
theorem gR_dvd : ∀ (row : List Int) (z : Int),gR row z∣z∧∀ x ∈ row,gR row z∣x
 | [],z=>⟨Int.dvd_refl z,fun x hx=>by cases hx⟩
 | x :: l,z=>by
  have h:=gR_dvd l ((Int.gcd z x : Nat) : Int)
  refine ⟨Int.dvd_trans h.1 (Int.gcd_dvd_left ..),fun y hy=>?_⟩
  rcases List.mem_cons.1 hy with rfl | hy
  ·exact Int.dvd_trans h.1 (Int.gcd_dvd_right ..)
  ·exact h.2 y hy
theorem gM_dvd : ∀ (M : Mat) (z : Int),gM M z∣z∧∀ l ∈ M,∀ x ∈ l,gM M z∣x
 | [],z=>⟨Int.dvd_refl z,fun x hx=>by cases hx⟩
 | r :: M,z=>by
  have h:=gM_dvd M (gR r z)
  have h1:=gR_dvd r z
  refine ⟨Int.dvd_trans h.1 h1.1,fun l hl=>?_⟩
  rcases List.mem_cons.1 hl with rfl | hl
  ·exact fun x hx=>Int.dvd_trans h.1 (h1.2 x hx)
  ·exact h.2 l hl
theorem gR_nn : ∀ (row : List Int) (z : Int),0≤z→0≤gR row z
 | [],_,h=>h
 | x :: l,z,_=>gR_nn l _ (Int.natCast_nonneg _)
theorem gM_nn : ∀ (M : Mat) (z : Int),0≤z→0≤gM M z
 | [],_,h=>h
 | r :: M,z,h=>gM_nn M _ (gR_nn r z h)
theorem gR_mul {g : Int} (hg : 0≤g) : ∀ (row : List Int) (z : Int),gR (row.map (fun x=>g * x)) (g * z) = g * gR row z
 | [],_=>rfl
 | x :: l,z=>by
  have h:=gR_mul hg l ((Int.gcd z x : Nat) : Int)
  show gR (l.map (fun x=>g * x)) ((Int.gcd (g * z) (g * x) : Nat) : Int) = g * gR l ((Int.gcd z x : Nat) : Int)
  rw [← h,Int.gcd_mul_left,Int.natCast_mul,Int.natAbs_of_nonneg hg]
theorem gM_mul {g : Int} (hg : 0≤g) : ∀ (M : Mat) (z : Int),gM (mapM (fun x=>g * x) M) (g * z) = g * gM M z
 | [],_=>rfl
 | r :: M,z=>by
  show gM (mapM (fun x=>g * x) M) (gR (r.map (fun x=>g * x)) (g * z)) = g * gM M (gR r z)
  rw [gR_mul hg,gM_mul hg]
theorem mapM_back {g : Int} {M : Mat} (h : ∀ l ∈ M,∀ x ∈ l,g∣x) : mapM (fun x=>g * x) (mapM (fun x=>x / g) M) = M:=by
 unfold mapM
 rw [List.map_map]
 have : ∀ l ∈ M,(List.map (fun x=>g * x) ∘ List.map (fun x=>x / g)) l = l:=fun l hl=>by
  show List.map (fun x=>g * x) (List.map (fun x=>x / g) l) = l
  rw [List.map_map]
  have : ∀ x ∈ l,((fun x=>g * x) ∘ (fun x=>x / g)) x = x:=fun x hx=>Int.mul_ediv_cancel' (h l hl x hx)
  rw [List.map_congr_left this,List.map_id']
 rw [List.map_congr_left this,List.map_id']
theorem at_mapM (f : Int→Int) (hf : f 0 = 0) (M : Mat) (i j : Nat) : at' (mapM f M) i j = f (at' M i j):=by
 unfold at'
 rw [mapM_rw,List.getD_eq_getElem?_getD,List.getD_eq_getElem?_getD,List.getElem?_map]
 cases (rw M i)[j]? with
 | none=>exact hf.symm
 | some x=>rfl
theorem norm_norm {n : Nat} {M : Mat} {d : Int} (h : Rc n M) (hd : 0 < d) : nH n (nR n M d) = nR n M d∧nG n (nR n M d) (d / nG n M d) = 1∧nR n (nR n M d) (d / nG n M d) = nR n M d∧Rc n (nR n M d)∧0 < nG n M d∧0 < d / nG n M d:=by
 have hD:=gM_dvd (nH n M) d
 have hp : 0 < nG n M d:=by
  have h1:=gM_nn (nH n M) d (by omega)
  have h2:=(DW.gM_le (nH n M) d (by omega)).1
  unfold nG;omega
 have hH:=nH_rc h
 have hF:=nH_hf h
 have hZ:=nH_nz h
 have hR : Rc n (nR n M d):=mapM_rc hH
 have hb : mapM (fun x=>nG n M d * x) (nR n M d) = nH n M:=mapM_back hD.2
 have hdd : nG n M d * (d / nG n M d) = d:=Int.mul_ediv_cancel' hD.1
 have hg : gM (nH n M) d = nG n M d:=rfl
 have hX : nH n (nR n M d) = nR n M d:=nH_self hR (HF.div hp (nH n M) (nR n M d) (mapM_len _ _).symm (fun i j=>by
  conv=>lhs;rw [← hb]
  exact at_mapM _ (Int.mul_zero _) _ _ _) hF) fun l hl=>by
   obtain ⟨r,hr,rfl⟩:=List.mem_map.1 hl
   have h1:=hZ r hr
   rw [List.all_eq_false] at h1 ⊢
   obtain ⟨x,hx,h2⟩:=h1
   refine ⟨x / nG n M d,List.mem_map.2 ⟨x,hx,rfl⟩,?_⟩
   have h3:=Int.mul_ediv_cancel' (hD.2 r hr x hx)
   rw [hg] at h3
   simp only [decide_eq_true_eq] at h2 ⊢
   intro h4
   rw [h4,Int.mul_zero] at h3
   exact h2 h3.symm
 have hG : nG n (nR n M d) (d / nG n M d) = 1:=by
  have h1:=gM_mul (g:=nG n M d) (by omega) (nR n M d) (d / nG n M d)
  rw [hb,hdd,hg] at h1
  have h2 : nG n M d * (gM (nR n M d) (d / nG n M d) - 1) = 0:=by rw [Int.mul_sub,← h1,Int.mul_one,Int.sub_self]
  show gM (nH n (nR n M d)) (d / nG n M d) = 1
  rw [hX]
  rcases Int.mul_eq_zero.1 h2 with h2 | h2
  ·omega
  ·omega
 refine ⟨hX,hG,?_,hR,hp,?_⟩
 ·show mapM (fun z=>z / nG n (nR n M d) (d / nG n M d)) (nH n (nR n M d)) = nR n M d
  rw [hG,hX]
  unfold mapM
  have : ∀ l : List Int,l.map (fun z=>z / 1) = l:=fun l=>by
   rw [List.map_congr_left (g:=fun x=>x) (fun x _=>Int.ediv_one x),List.map_id']
  rw [List.map_congr_left (g:=fun x=>x) (fun l _=>this l),List.map_id']
 ·refine Int.lt_of_mul_lt_mul_left (a:=nG n M d) ?_ (by omega)
  rw [hdd,Int.mul_zero];exact hd
end Mx
end Go.Proofs.YtcgjmdpcplhanaaGreat
namespace Go.Proofs.YtcgjmdpcplhanaaGreat
open Go.RowKit
namespace DW
theorem nH_mem {n : Nat} {m : Mx.Mat} : ∀ {l : List Int},l ∈ nH n m→l ∈ (Mx.red n 0 (0,m)).2:=fun h=>List.mem_of_mem_take h
theorem red_b50 {n : Nat} {den : Int} {m : Mx.Mat} (hc : lck n m den = 0) : Mx.Bd (2 ^ (50 * 11 ^ n)) (Mx.red n 0 (0,m)).2:=by
 have:=Mx.red_bd (n:=n) (e:=50) (by omega) n 0 0 m (lck_rc hc) (by simpa using lck_bd hc)
 rw [Nat.zero_add] at this
 exact this
theorem div_le {g x : Int} (hg : 0 < g) (h : g∣x) : (x / g).natAbs≤x.natAbs:=by
 have h1:=Int.mul_ediv_cancel' h
 have h2 : x.natAbs = g.natAbs * (x / g).natAbs:=by rw [← Int.natAbs_mul,h1]
 rw [h2]
 exact Nat.le_mul_of_pos_left _ (by omega)
theorem nR_b50 {n : Nat} {den : Int} {m : Mx.Mat} (hc : lck n m den = 0) : ∀ l ∈ nR n m den,∀ x ∈ l,x.natAbs≤2 ^ (50 * 11 ^ n):=fun l hl x hx=>by
 have hd:=(lck_ok hc).1
 obtain ⟨r,hr,rfl⟩:=List.mem_map.1 hl
 obtain ⟨y,hy,rfl⟩:=List.mem_map.1 hx
 have h1:=(Mx.norm_norm (lck_rc hc) (show 0 < den by omega)).2.2.2.2.1
 exact Nat.le_trans (div_le h1 ((Mx.gM_dvd (nH n m) den).2 r hr y hy)) (bd_mem (red_b50 hc) (nH_mem hr) hy)
theorem dn_b50 {n : Nat} {den : Int} {m : Mx.Mat} (hc : lck n m den = 0) : (den / nG n m den).natAbs≤2 ^ 50:=by
 have hd:=(lck_ok hc).1
 have h1:=(Mx.norm_norm (lck_rc hc) (show 0 < den by omega)).2.2.2.2.1
 exact Nat.le_trans (div_le h1 (Mx.gM_dvd (nH n m) den).1) (Nat.le_trans (show den.natAbs≤1000000000000000 by omega) (by decide))
theorem nR_len {n : Nat} {den : Int} {m : Mx.Mat} (hc : lck n m den = 0) : (nR n m den).length≤64:=by
 have h1:=(lck_ok hc).2.1
 have h2:=nH_len (lck_rc hc)
 unfold nR
 rw [mapM_len];omega
theorem lscan_zero {dim : Int} : ∀ {m : List (List Int)},(∀ l ∈ m,(l.length : Int) = dim∧∀ z ∈ l,inb 1000000000000000 z = true)→lscan dim m = 0
 | [],_=>rfl
 | r :: t,h=>by
  unfold lscan
  have h1:=h r List.mem_cons_self
  rw [if_pos h1.1,if_neg,lscan_zero fun l hl=>h l (List.mem_cons_of_mem _ hl)]
  intro h4
  rw [List.any_eq_true] at h4
  obtain ⟨z,hz,h6⟩:=h4
  unfold big at h6
  rw [h1.2 z hz] at h6
  cases h6
theorem lck_again {n : Nat} {den : Int} {m : Mx.Mat} (hc : lck n m den = 0) (h1 : (nR n m den).all (fun l=>l.all (inb 1000000000000000)) = true) (h2 : inb 1000000000000000 (den / nG n m den) = true) : lck n (nR n m den) (den / nG n m den) = 0:=by
 have hd:=(lck_ok hc).1
 have hl:=nR_len hc
 have hnn:=Mx.norm_norm (lck_rc hc) (show 0 < den by omega)
 have h3:=inb_iff.1 h2
 unfold lck
 rw [if_neg (by omega),if_neg (by omega)]
 refine lscan_zero fun l hl=>⟨by rw [hnn.2.2.2.1 l hl],fun z hz=>List.all_eq_true.1 (List.all_eq_true.1 h1 l hl) z hz⟩
theorem lnormal_d (n : Nat) (den : Int) (m : Mx.Mat) (hc : lck n m den = 0) (hn : n≤10) : Fn Tryz.prog 31 [dL n m den] (hnd n (nR n m den) (den / nG n m den)):=by
 obtain ⟨k1,k2,k3⟩:=lck_ok hc
 have hR:=lck_rc hc
 have hnn:=Mx.norm_norm hR (show 0 < den by omega)
 have CK:=lcheck_d n den m (by unfold I64;omega) (by unfold I64;omega) (by omega) (fun r hr=>by have:=hR r hr;omega)
 rw [hc] at CK
 have RD:=read_d n den m n (by unfold I64;omega) (by omega) (by omega) hn hR (lck_bd hc) (lck_in hc)
 have h5:=e50 hn
 have HN:=handed_d n (nR n m den) n (den / nG n m den) (by have:=nR_len hc;omega) (by omega) (by omega) hnn.2.2.2.1 (fun i j=>by
  rcases at_mem (nR n m den) i j with h | ⟨r,hr,hz⟩
  ·rw [h];exact fit_pow (e:=0) (by simp) (by omega)
  ·exact fit_pow (nR_b50 hc r hr _ hz) (by omega)) (fit_pow (dn_b50 hc) (by omega)) (by omega)
 exact lnormal_w n den m _ _ CK RD HN
theorem rbasis_d (n : Nat) (den : Int) (m : Mx.Mat) (hc : lck n m den = 0) (hn : n≤5) : Fn Tryz.prog 158 [dW m,.nm den,zI n] (.tp [dW (nR n m den),.nm (den / nG n m den)]):=by
 obtain ⟨k1,k2,k3⟩:=lck_ok hc
 have hR:=lck_rc hc
 have h5:=wid_exp hn
 exact basis_d m n 50 n den hR (by omega) (by omega) (by omega) (.inr (Nat.le_refl _)) h5 (lck_bd hc) (hf_bits (e:=50) (Nat.le_trans (show den.natAbs≤1000000000000000 by omega) (by decide)) (by omega)) (by omega)
  (fun l hl x hx=>hf_bits (bd_mem (red_b50 hc) (nH_mem hl) hx) (by omega)) (fun l hl x hx=>hf_bits (bd_mem (red_b50 hc) hl hx) (by omega))
theorem rnormal_d (n : Nat) (den : Int) (m : Mx.Mat) (hc : lck n m den = 0) (hn : n≤5) : Fn Tryz.prog 34 [dL n m den] (hnd n (nR n m den) (den / nG n m den)):=by
 obtain ⟨k1,k2,k3⟩:=lck_ok hc
 have hR:=lck_rc hc
 have h5:=wid_exp hn
 have hnn:=Mx.norm_norm hR (show 0 < den by omega)
 have WD:=wide_d m (by omega) (fun l hl=>by have:=hR l hl;omega) (fun l hl z hz=>lck_in hc l hl z hz)
 have OF:=of_d den (by omega)
 have MD:=rmade_d n m (nR n m den) den (den / nG n m den) (rbasis_d n den m hc hn) (by have:=nR_len hc;omega) (fun l hl=>by have:=hnn.2.2.2.1 l hl;omega) (fun l hl x hx=>hd_bits (nR_b50 hc l hl x hx) (by omega)) (hd_bits (dn_b50 hc) (by omega))
 exact rnormal_w n den m _ _ WD OF MD
theorem lgt_ok {n : Int} {m : List (List Int)} (h : lgt n m = true) : n ≠ 6∧m.length≤70∧∀ l ∈ m,l.length≤10:=by
 unfold lgt at h
 rw [Bool.and_eq_true,Bool.not_eq_true',Bool.or_eq_false_iff,Bool.or_eq_false_iff,decide_eq_false_iff_not,decide_eq_false_iff_not,List.all_eq_true] at h
 exact ⟨h.1.1.1,by omega,fun l hl=>of_decide_eq_true (h.2 l hl)⟩
theorem Fn.weak {P : Program} {f : FuncId} {ds ds' : List D} {r : D} (h : Fn P f ds r) (hw : ∀ X w vs,ATp X w ds' vs→ATp X w ds vs) : Fn P f ds' r:=⟨h.1,fun X w vs hX hv=>h.2 X w vs hX (hw X w vs.toList hv)⟩
set_option maxRecDepth 20000
set_option maxHeartbeats 2000000
theorem same_zero : Fn Tryz.prog 35 [dL 0 [] 0,.st [zI 0,.sc (.slice none 0 0),zI 0]] (.sc (.bool true)):=by
 refine (samel_d 0 0 0 0 [] [] (by simp) (fun l hl=>by cases hl)).weak fun X w vs h=>?_
 simp only [ATp] at h ⊢
 obtain ⟨u,rest,e,h1,u2,rest2,e2,h2,e3⟩:=h
 exact ⟨u,rest,e,h1,u2,rest2,e2,ar_lat h2,e3⟩
theorem normal_zero : Fn Tryz.prog 31 [dL 0 [] 0] (.tp [dL 0 [] 0,zI 2]) :=
 lnormal_e 0 0 2 [] (by omega) (lcheck_d 0 0 [] (by unfold I64;omega) (by unfold I64;omega) (by simp) (fun r hr=>by cases hr))
theorem lawNormals_d (dim den : Int) (m : List (List Int)) (hd : I64 dim) (hd2 : I64 den) : Fn Tryz.prog 5 [dL dim m den] (.sc (.bool true)):=by
 have LT:=light_d dim den m
 have AW:=awake_d
 by_cases hs : lgt dim m = true
 ·rw [hs] at LT
  obtain ⟨b1,b2,b3⟩:=lgt_ok hs
  have CK:=lcheck_d dim den m hd hd2 (by omega) (fun r hr=>by have:=b3 r hr;omega)
  have RC:=rcheck_d dim den m (by omega)
  have NZ:=normal_zero
  by_cases hc : lck dim m den = 0
  ·obtain ⟨k1,k2,k3⟩:=lck_ok hc
   obtain ⟨n,rfl⟩ : ∃ n : Nat,dim = n:=⟨dim.toNat,by omega⟩
   rw [hc] at CK RC
   have LN:=lnormal_d n den m hc (by omega)
   have RN:=rnormal_d n den m hc (by omega)
   by_cases hh : (nR n m den).all (fun l=>l.all (inb 1000000000000000)) = true∧inb 1000000000000000 (den / nG n m den) = true
   ·have hnn:=Mx.norm_norm (lck_rc hc) (show 0 < den by omega)
    have LA:=lnormal_d n _ _ (lck_again hc hh.1 hh.2) (by omega)
    rw [hnn.2.2.1,hnn.2.1,Int.ediv_one] at LA
    have SL:=samel_d n n (den / nG n m den) (den / nG n m den) (nR n m den) (nR n m den) (by have:=nR_len hc;omega) (fun l hl=>by have:=hnn.2.2.2.1 l hl;omega)
    rw [decide_eq_true rfl,decide_eq_true rfl,decide_eq_true rfl,Bool.and_self,Bool.and_self] at SL
    unfold hnd at LN RN LA
    rw [if_pos hh] at LN RN LA
    clear hc hs b1 b2 b3 hh hnn k1 k2 k3
    generalize nR n m den = R at *
    generalize den / nG n m den = d at *
    refine fn_of Tryz.func5 zb101 rfl rfl rfl fun X0=>?_
    simp only [initL]
    (repeat (first | refine gk fun K hK=>?_ | refine zs2 ?_));refine zs213 ?_;(repeat (first | refine gk fun K hK=>?_ | refine zs2 ?_));refine zs224 ?_;(repeat (first | refine gk fun K hK=>?_ | refine zs2 ?_))
    refine zs45 ?_
    (repeat (first | refine gk fun K hK=>?_ | refine zs2 ?_));refine zs225 ?_;(repeat (first | refine gk fun K hK=>?_ | refine zs2 ?_));refine zs179 ?_;(repeat (first | refine gk fun K hK=>?_ | refine zs2 ?_));refine zs226 ?_;(repeat (first | refine gk fun K hK=>?_ | refine zs2 ?_))
    refine zs45 ?_
    (repeat (first | refine gk fun K hK=>?_ | refine zs2 ?_));refine zs227 ?_;(repeat (first | refine gk fun K hK=>?_ | refine zs2 ?_));refine zs228 ?_;(repeat (first | refine gk fun K hK=>?_ | refine zs2 ?_))
    refine zs48 ?_
    (repeat (first | refine gk fun K hK=>?_ | refine zs2 ?_));refine zs229 ?_;(repeat (first | refine gk fun K hK=>?_ | refine zs2 ?_));refine zs230 ?_;(repeat (first | refine gk fun K hK=>?_ | refine zs2 ?_))
    refine zs45 ?_
    (repeat (first | refine gk fun K hK=>?_ | refine zs2 ?_));refine zs231 ?_;(repeat (first | refine gk fun K hK=>?_ | refine zs2 ?_));refine zs232 ?_;(repeat (first | refine gk fun K hK=>?_ | refine zs2 ?_))
    exact ⟨_,Sh.refl,.one (.tmp 2) _ rfl (.tmp 2 rfl)⟩
   ·unfold hnd at LN RN
    rw [if_neg hh] at LN RN
    have SL:=samel_d 0 0 0 0 [] [] (by simp) (fun l hl=>by cases hl)
    rw [decide_eq_true rfl,decide_eq_true rfl,Bool.and_self,Bool.and_self] at SL
    clear hc hs b1 b2 b3 hh k1 k2 k3
    refine fn_of Tryz.func5 zb101 rfl rfl rfl fun X0=>?_
    simp only [initL]
    (repeat (first | refine gk fun K hK=>?_ | refine zs2 ?_));refine zs213 ?_;(repeat (first | refine gk fun K hK=>?_ | refine zs2 ?_));refine zs224 ?_;(repeat (first | refine gk fun K hK=>?_ | refine zs2 ?_))
    refine zs45 ?_
    (repeat (first | refine gk fun K hK=>?_ | refine zs2 ?_));refine zs225 ?_;(repeat (first | refine gk fun K hK=>?_ | refine zs2 ?_));refine zs179 ?_;(repeat (first | refine gk fun K hK=>?_ | refine zs2 ?_));refine zs226 ?_;(repeat (first | refine gk fun K hK=>?_ | refine zs2 ?_))
    refine zs45 ?_
    (repeat (first | refine gk fun K hK=>?_ | refine zs2 ?_));refine zs227 ?_;(repeat (first | refine gk fun K hK=>?_ | refine zs2 ?_));refine zs228 ?_;(repeat (first | refine gk fun K hK=>?_ | refine zs2 ?_))
    refine zs48 ?_
    (repeat (first | refine gk fun K hK=>?_ | refine zs2 ?_));refine zs229 ?_;(repeat (first | refine gk fun K hK=>?_ | refine zs2 ?_));refine zs230 ?_;(repeat (first | refine gk fun K hK=>?_ | refine zs2 ?_))
    refine zs45 ?_
    (repeat (first | refine gk fun K hK=>?_ | refine zs2 ?_));refine zs231 ?_;(repeat (first | refine gk fun K hK=>?_ | refine zs2 ?_));refine zs232 ?_;(repeat (first | refine gk fun K hK=>?_ | refine zs2 ?_))
    exact ⟨_,Sh.refl,.one (.tmp 2) _ rfl (.tmp 2 rfl)⟩
  ·have SZ:=same_zero
   have hC:=lck_i64 dim m den
   generalize lck dim m den = C at *
   have LN:=lnormal_e dim den C m hc CK
   clear hs b1 b2 b3
   rcases hC with rfl | rfl | rfl | rfl
   ·exact absurd rfl hc
   all_goals
    refine fn_of Tryz.func5 zb101 rfl rfl rfl fun X0=>?_
    simp only [initL]
    (repeat (first | refine gk fun K hK=>?_ | refine zs2 ?_));refine zs213 ?_;(repeat (first | refine gk fun K hK=>?_ | refine zs2 ?_));refine zs224 ?_;(repeat (first | refine gk fun K hK=>?_ | refine zs2 ?_))
    refine zs45 ?_
    (repeat (first | refine gk fun K hK=>?_ | refine zs2 ?_));refine zs225 ?_;(repeat (first | refine gk fun K hK=>?_ | refine zs2 ?_));refine zs179 ?_;(repeat (first | refine gk fun K hK=>?_ | refine zs2 ?_));refine zs226 ?_;(repeat (first | refine gk fun K hK=>?_ | refine zs2 ?_))
    refine zs45 ?_
    (repeat (first | refine gk fun K hK=>?_ | refine zs2 ?_));refine zs227 ?_;(repeat (first | refine gk fun K hK=>?_ | refine zs2 ?_));refine zs228 ?_;(repeat (first | refine gk fun K hK=>?_ | refine zs2 ?_))
    refine zs45 ?_
    (repeat (first | refine gk fun K hK=>?_ | refine zs2 ?_));refine zs230 ?_;(repeat (first | refine gk fun K hK=>?_ | refine zs2 ?_))
    refine zs45 ?_
    (repeat (first | refine gk fun K hK=>?_ | refine zs2 ?_));refine zs231 ?_;(repeat (first | refine gk fun K hK=>?_ | refine zs2 ?_));refine zs232 ?_;(repeat (first | refine gk fun K hK=>?_ | refine zs2 ?_))
    exact ⟨_,Sh.refl,.one (.tmp 2) _ rfl (.tmp 2 rfl)⟩
 ·have hs' : lgt dim m = false:=by simpa using hs
  rw [hs'] at LT
  refine fn_of Tryz.func5 zb101 rfl rfl rfl fun X0=>?_
  simp only [initL]
  (repeat (first | refine gk fun K hK=>?_ | refine zs2 ?_));refine zs213 ?_;(repeat (first | refine gk fun K hK=>?_ | refine zs2 ?_));refine zs224 ?_;(repeat (first | refine gk fun K hK=>?_ | refine zs2 ?_))
  refine zs48 ?_
  (repeat (first | refine gk fun K hK=>?_ | refine zs2 ?_));(refine gar ?_;(refine aL1 rfl rfl rfl zb56 ?_);refine zs6 ?_;refine aL_nil ?_);(repeat (first | refine gk fun K hK=>?_ | refine zs2 ?_))
  exact ⟨_,Sh.refl,.one (.tmp 2) _ rfl (.tmp 2 rfl)⟩
end DW
theorem law_normals (v : Value) (dim den : Int) (m : List (List Int)) (hd : I64 dim) (hd2 : I64 den) (w : World) (h : DW.AR (fun _=>False) w (DW.dL dim m den) v) : Calls Tryz.prog 5 #[v] w fun e w'=>e = .returned (.bool true)∧Below w.heap.size w w':=by
 refine ((DW.lawNormals_d dim den m hd hd2).2 (fun _=>False) w #[v] (fun _ h=>h.elim) (by simp only [DW.ATp];exact ⟨v,[],rfl,h,rfl⟩)).mono fun e w' ⟨u,h1,h2,h3⟩=>⟨?_,h3⟩
 simp only [DW.AR] at h2
 rw [h1,h2.1]
end Go.Proofs.YtcgjmdpcplhanaaGreat
