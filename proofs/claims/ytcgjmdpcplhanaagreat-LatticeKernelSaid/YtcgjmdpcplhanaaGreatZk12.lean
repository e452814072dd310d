/- Lemmas for the law: Q25 W20 Q26 Q27 E28 -/
import Derived.Test.YtcgjmdpcplhanaaGreatZk11
namespace Go.Proofs.YtcgjmdpcplhanaaGreat
theorem zs178 {p q : Prop} (h : q) (f : Wq q → p := by (intro hW; ((refine gar ?_; refine zs4 ?_; refine zs33 ?_; refine zs94 ?_; refine aL_nil ?_)); exact hW.out)) : p := f ⟨h⟩
theorem zb67 {p : Prop} (h : p := by rw [D.out.2.2.2]; exact Nat.div_le_self _ _) : p := h
theorem zb46 {p : Prop} (h : p := by rw [← HQ.out]; exact vl_mono_len D.out.2.2.1 H1.out.nf.dg zb67) : p := h
theorem zb55 {p : Prop} (h : p := by (apply d_call0; (focus (exact rfl)); (focus (assumption)); (focus (exact rfl)))) : p := h
theorem zs179 {p q : Prop} (h : q) (f : Wq q → p := by (intro hW; ((refine gar ?_; refine zs4 ?_; refine zs33 ?_; refine zs4 ?_; refine zs77 ?_; refine zs77 ?_; refine zs6 ?_; refine zs6 ?_; refine aL_nil ?_)); exact hW.out)) : p := f ⟨h⟩
theorem zs112 {p q : Prop} (h : q) (f : Wq q → p := by (intro hW; ((first | (refine aLs rfl rfl rfl rfl ?_ ?_; (focus (apply look_b; (conv => lhs; whnf); (first | done | exact rfl | (apply sc_bool; (first | (apply decide_eq_true; omega) | (apply decide_eq_false; omega) | assumption | (simp; done))))))) | refine aLw rfl rfl rfl rfl zb30 zb55 ?_)); exact hW.out)) : p := f ⟨h⟩
end Go.Proofs.YtcgjmdpcplhanaaGreat
namespace Go.Proofs.YtcgjmdpcplhanaaGreat
open Go.RowKit
namespace CI
variable {P : Program} {h h' : H} {tm tm' : Tm} {rec : Rec} {n : Nat} {r : List RO} {S : Nat → SD} {ops : Array Oper} {A : Nat → Prop} {ρ ρ1 ρ2 : Nat → Nat} {w w1 w2 : World} {a : Act} {ds : List Nat} {L : Nat → Prop} {s j : Nat} {o : Oper} {ro : RO} {G h1 : H} {E : Env}
theorem drew_below (w : World) : Below w.heap.size w { w with drawn := w.drawn + 1 } := (Below.refl _ w).drew
theorem inv_start (t : Trace rec r tm h tm' h' S) (tR : Rel P A ρ w h) (hf : Fr P A ρ w n ds tm a) : Inv P S ops r h' n ds A ρ w (fun _ => False) 0 ρ a { w with drawn := w.drawn + 1 } := by
 have hlt := Lt.below (drew_below w)
 have hA : ∀ k, A k → AL A S (fun _ => False) k := fun k hk => .inl hk
 have hmo : Mo A (AL A S fun _ => False) ρ ρ := ⟨hA, fun _ _ => rfl⟩
 have hlv : ∀ k b, Lv S (fun _ => False) 0 k b → h.get k = some b := fun k b e => by
  rcases e with ⟨_, e⟩ | ⟨_, e, _⟩
  ·rw [t.h0] at e; exact e
  ·exact e.elim
 refine ⟨fun _ _ _ e => e.elim, fun _ e => e.elim, Nat.zero_le _, fun i hi => by omega, fun _ _ _ _ e => e, fun u => .inr ⟨fun _ _ e => e.elim, ?_⟩, hf.sz, hf.df, fun k b e => ?_, fun k b k' b' e e' hk => ?_, hlt, fun b _ _ => rfl, fun _ _ => rfl, fun k b e hk => ?_⟩
 ·rw [t.tm0]
  exact VR.mo hmo hlt _ _ (hf.tr u)
 ·obtain ⟨_, _, b1, b2⟩ := tR.blk k b (hlv k b e)
  exact ⟨b1, b2.mo hmo hlt rfl⟩
 ·exact tR.inj k k' (get_live (hlv k b e)) (get_live (hlv k' b' e')) hk
 ·have := (tR.blk k b (hlv k b e)).1
  rw [t.h0] at hk; omega
theorem inv_end {a0 : Act} (I : Inv P S ops r h' n ds A ρ w L s ρ1 a w1) (t : Trace rec r tm h tm' h' S) (st : Stat P n ops r) (hg : RecGd rec) (f : Wf h) (hn : n < 1000000) (hall : ∀ i, i < r.length → L i) (tR : Rel P A ρ w h) (hd : Dj A h h') (hf : Fr P A ρ w n ds tm a0) : Post P A ρ w h ρ1 w1 h' ∧ Fr P (Ext A h h') ρ1 w1 n ds tm' a := by
  have hAL : ∀ k, AL A S L k → Ext A h h' k := fun k hk => by
    rcases hk with hk | ⟨i, hi, a1, a2⟩
    · exact .inl hk
    · have m1 := t.mono hg f (Nat.zero_le i) (Nat.le_of_lt (I.lN i hi))
      have m2 := t.mono hg f (show i + 1 ≤ r.length from I.lN i hi) (Nat.le_refl _)
      rw [t.h0] at m1
      rw [t.hN] at m2
      exact .inr (by omega)
  have hmo : Mo (AL A S L) (Ext A h h') ρ1 ρ1 := ⟨hAL, fun _ _ => rfl⟩
  obtain ⟨wfN, gN⟩ := t.gd hg f r.length (Nat.le_refl _)
  rw [t.hN] at wfN gN
  have hq : ∀ i, s ≤ i → i < r.length → (S (i + 1)).wr = false := fun i h1 h2 => by
    cases hw : (S (i + 1)).wr with
    | false => rfl
    | true => exact absurd (hall i h2) (I.sr i h1 h2 hw)
  have hlv : ∀ k b, h'.get k = some b → Lv S L s k b := fun k b e => by
    by_cases hk : k < (S 0).h.next
    · refine .inl ⟨hk, ?_⟩
      rw [← stage_old t hg f I.s0 (Nat.le_refl _) (Nat.lt_of_lt_of_le hk (t.mono hg f (Nat.zero_le _) I.s0)) hq, t.hN]; exact e
    · have hkN : k < (S r.length).h.next := by rw [t.hN]; exact wfN.lt k b (get_tree e)
      obtain ⟨q, hq1, a1, a2⟩ := t.owner (Nat.le_of_not_lt hk) hkN
      refine .inr ⟨q, hall q hq1, a1, a2, ?_⟩
      have hs0 := I.s0
      rw [← stage_old t hg f (x := max s (q + 1)) (y := r.length) (by omega) (Nat.le_refl _) (Nat.lt_of_lt_of_le a2 (t.mono hg f (by omega) (by omega))) (fun i i1 i2 => hq i (by omega) i2), t.hN]; exact e
  refine ⟨⟨fun k hk => I.rho k (by rw [t.h0]; exact hk), ⟨fun k b e => ?_, fun k k' hl hl' hk => ?_, wfN.bd⟩, I.lt, fun b hb hx => I.fr b hb (by rw [t.h0]; exact hx), fun k hk hl => ?_⟩, ⟨fun u => ?_, I.sz, fun k hk => .inl (hf.nm k hk), ?_⟩⟩
  · obtain ⟨b1, b2⟩ := I.blk k b (hlv k b e)
    have hAk : AL A S L k := by
      rcases hlv k b e with ⟨hk, e2⟩ | ⟨i, hi, a1, a2, _⟩
      · rw [t.h0] at hk
        exact .inl (tR.live (gN.good.back hk (get_live e))).2.1
      · exact .inr ⟨i, hi, a1, a2⟩
    exact ⟨wfN.lt k b (get_tree e), hAL k hAk, b1, b2.mo hmo (Lt.refl _) rfl⟩
  · obtain ⟨b, eb⟩ := Option.isSome_iff_exists.1 hl
    obtain ⟨b', eb'⟩ := Option.isSome_iff_exists.1 hl'
    exact I.inj k b k' b' (hlv k b eb) (hlv k' b' eb') hk
  · obtain ⟨b, eb⟩ := Option.isSome_iff_exists.1 hl
    have := I.new k b (hlv k b eb) (by rw [t.h0]; exact hk)
    rwa [t.h0] at this
  · refine VR.mo hmo (Lt.refl _) _ _ ?_
    rw [← t.tmN]
    have hlo : ∀ {i : Nat} {o : Oper}, ops[i]? = some o → i < r.length := fun ho => by rw [st.len]; exact (Array.getElem?_eq_some_iff.1 ho).1
    rcases tm_at t st hn u r.length (Nat.le_refl _) with ⟨i, o', h1, h2, h3, h4, h5⟩ | ⟨h1, h2⟩
    · rw [h5]
      rcases I.tmv u with ⟨i', o'', k1, k2, k3, k4, k5⟩ | ⟨k1, k2⟩
      · have : i' = i := by
          rcases Nat.lt_trichotomy i i' with e | e | e
          · exact absurd k3 (h4 i' o'' (hlo k2) e k2)
          · exact e.symm
          · exact absurd h3 (k4 i o' (hall i h1) e h2)
        subst this; exact k5
      · exact absurd h3 (k1 i o' (hall i h1) h2)
    · rw [h2]
      rcases I.tmv u with ⟨i', o'', k1, k2, k3, k4, k5⟩ | ⟨k1, k2⟩
      · exact absurd k3 (h1 i' o'' (hlo k2) k2)
      · exact k2
  · rw [I.df]
    exact List.map_congr_left fun k hk => by
      unfold coll
      rw [I.rho k (by rw [t.h0]; exact hd k (hf.nm k hk))]
theorem any_ok (hrec : RecOK P rec) (hg : RecGd rec) (t : Trace rec r tm h tm' h' S) (st : Stat P n ops r) (f : Wf h) (hn : n < 1000000) {F : Fence} (hF : FC F) {Q : Exit → Act → World → Prop} {a0 : Act} (tR : Rel P A ρ w h) (hd : Dj A h h') (hf : Fr P A ρ w n ds tm a0)
  (hq : ∀ ρ' w' a', Post P A ρ w h ρ' w' h' → Fr P (Ext A h h') ρ' w' n ds tm' a' → Q .normal a' w') : ∀ (fuel : Nat) (listed : Array Bool) (a : Act) (w1 : World) (s : Nat) (ρ1 : Nat → Nat) (U : List Nat), listed.size = ops.size → U.length ≤ fuel → (∀ i, i < ops.size → listed.getD i false = false → i ∈ U) →
   Inv P S ops r h' n ds A ρ w (fun i => listed.getD i false = true) s ρ1 a w1 → wpAnyIn F 0 P .any ops Q fuel listed a w1 := by
 have hsz := st.len
 have done : ∀ (listed : Array Bool) (a : Act) (w1 : World) (s : Nat) (ρ1 : Nat → Nat), (∀ i, i < ops.size → listed.getD i false = true) → Inv P S ops r h' n ds A ρ w (fun i => listed.getD i false = true) s ρ1 a w1 → Q .normal a w1 := fun listed a w1 s ρ1 hall I => by
  obtain ⟨p, fr⟩ := inv_end I t st hg f hn (fun i hi => hall i (by omega)) tR hd hf
  exact hq ρ1 w1 a p fr
 have unl : ∀ (listed : Array Bool) (j : Nat), listed.size = ops.size → listed.getD j true = false → j < ops.size ∧ listed.getD j false = false := fun listed j hs hl => by
  rw [Array.getD_eq_getD_getElem?] at hl
  cases e : listed[j]? with
  | none => rw [e] at hl; simp at hl
  | some b =>
   rw [e] at hl
   have hlt := (Array.getElem?_eq_some_iff.1 e).1
   refine ⟨by omega, ?_⟩
   rw [Array.getD_eq_getD_getElem?, e]; simpa using hl
 intro fuel
 induction fuel with
 | zero =>
  intro listed a w1 s ρ1 U hs hU hin I
  have hUn : U = [] := List.eq_nil_of_length_eq_zero (by omega)
  subst hUn
  have hall : ∀ i, i < ops.size → listed.getD i false = true := fun i hi => by
   cases hb : listed.getD i false with
   | true => rfl
   | false => exact absurd (hin i hi hb) (by simp)
  refine ⟨?_, done listed a w1 s ρ1 hall I⟩
  cases hr : Region.ready .any ops listed with
  | nil => rfl
  | cons x xs =>
   exfalso
   have hx : x ∈ Region.ready .any ops listed := by rw [hr]; exact List.mem_cons_self
   obtain ⟨h1, h2⟩ := unl listed x hs (mem_ready.1 hx).1
   rw [hall x h1] at h2; cases h2
 | succ fuel ih =>
  intro listed a w1 s ρ1 U hs hU hin I
  refine ⟨fun hr => ?_, fun j hj => ?_⟩
  ·refine done listed a w1 s ρ1 (fun i => ?_) I
   induction i using Nat.strongRecOn with
   | _ i ihi =>
    intro hi
    cases hb : listed.getD i false with
    | true => rfl
    | false =>
     exfalso
     have hmem : i ∈ Region.ready .any ops listed := by
      refine mem_ready.2 ⟨?_, ops[i], Array.getElem?_eq_getElem hi, fun e he hbd => ?_⟩
      ·have e := Array.getElem?_eq_getElem (xs := listed) (i := i) (by omega)
       rw [Array.getD_eq_getD_getElem?, e] at hb ⊢
       simpa using hb
      ·have hlt := st.edge i ops[i] e (Array.getElem?_eq_getElem hi) (by simpa using he) hbd
       exact ihi e.on hlt (by omega)
     rw [hr] at hmem; cases hmem
  ·obtain ⟨h1, o, ho, h3⟩ := mem_ready.1 hj
   obtain ⟨hjs, hjl⟩ := unl listed j hs h1
   obtain ⟨ro, G, h1', hr, hdst, _, sg⟩ := step_of hrec hg t st f ho
   have hpre : ∀ q, ro.pre.testBit q = true → listed.getD q false = true := fun q hq => by
    obtain ⟨e, he, hbd, hx⟩ := st.pre j o ro q ho hr hq
    have hl := h3 e (by simpa using he) hbd
    rcases hx with hx | ⟨ro', hr', hq'⟩
    ·rw [← hx]; exact hl
    ·exact I.cl e.on ro' q hl hr' hq'
   have M : Meet rec P S ops r tm h tm' h' n A (fun i => listed.getD i false = true) j o ro G h1' := ⟨t, st, hg, f, hn, ho, hr, by simp only [hjl]; simp, hpre, hdst, sg, hd, fun k hk => (tR.live hk).2.1⟩
   refine sg.wp F hF Q _ _ ρ1 w1 a (I.rel M) (I.dj M) (I.slots t st hn ho hr M.hj hpre) fun u w2 ρ2 p hu => ?_
   have I2 := I.step M p hu
   have hset : ∀ i, (listed.setIfInBounds j true).getD i false = true ↔ (listed.getD i false = true ∨ i = j) := fun i => by
    by_cases e : i = j
    ·subst e
     simp [Array.getD_eq_getD_getElem?, Array.getElem?_setIfInBounds, show i < listed.size by omega]
    ·simp [Array.getD_eq_getD_getElem?, Array.getElem?_setIfInBounds_ne (Ne.symm e), e]
   have hfun : (fun i => listed.getD i false = true ∨ i = j) = (fun i => (listed.setIfInBounds j true).getD i false = true) := funext fun i => propext (hset i).symm
   rw [hfun] at I2
   have hjU : j ∈ U := hin j hjs hjl
   refine ih _ _ _ _ _ (U.erase j) (by simp [hs]) (by rw [List.length_erase_of_mem hjU]; omega) (fun i hi hb => ?_) I2
   have hne : i ≠ j := fun e => by
    have := (hset i).2 (.inr e)
    rw [this] at hb; cases hb
   have hb' : listed.getD i false = false := by
    cases hx : listed.getD i false with
    | false => rfl
    | true => rw [(hset i).2 (.inl hx)] at hb; cases hb
   exact (List.mem_erase_of_ne hne).2 (hin i hi hb')
theorem regD_ok (hmix : P.follows .mixedOrders = true) (rec : Rec) (hrec : RecOK P rec) (hg : RecGd rec) : RegDOK P rec := by
 intro F hF Q ops id n hn r hc tm h tm' h' e f A ρ w a ds tR hd hf hq
 obtain ⟨S, t⟩ := trace_of e
 have st := stat_of hc
 refine wpIn_region_any hmix (any_ok hrec hg t st f hn hF tR hd hf hq ops.size _ a _ 0 ρ (List.range ops.size) (by simp) (by simp) (fun i hi _ => List.mem_range.2 hi) ?_)
 have I := inv_start (ops := ops) t tR hf
 have hfun : (fun _ : Nat => False) = (fun i => (Array.replicate ops.size false).getD i false = true) := funext fun i => propext (by
  simp only [false_iff, Array.getD_eq_getD_getElem?, Array.getElem?_replicate]
  split <;> simp)
 rw [hfun] at I
 exact I
theorem run_calls (hmix : P.follows .mixedOrders = true) (hO : OrcOK P E) (hfn : E.fns = compF P) {N g : Nat} (hE : Enters P g) {c : C} {h' : H} (e : run E N (.call (.fn g []) [] ⟨0, 0, [], .e⟩) = some (.val c h')) (w : World) :
    Calls P g #[] w (fun e w' => ∃ u A ρ, e = .returned u ∧ VR P A ρ w' c u ∧ Rel P A ρ w' h' ∧ Below w.heap.size w w') := by
  have hok := (run_ok hO hfn (fun rec h1 h2 => regD_ok hmix rec h1 h2) N).1
  have hbare : ∀ k, (⟨0, 0, [], .e⟩ : H).get k = none := bare_get 0
  have tR : Rel P (fun _ => False) (fun _ => 0) w ⟨0, 0, [], .e⟩ := ⟨(fun k b e => by rw [hbare] at e; cases e), (fun k _ hl => by unfold H.live at hl; rw [hbare] at hl; cases hl), by simp⟩
  obtain ⟨d, hd, hk⟩ := hok _ _ _ _ _ e ⟨by simp, (fun k b e => by rw [T.get_e] at e; cases e)⟩ (fun _ => False) (fun _ => 0) w (.func (.func g) #[] #[]) #[] tR (fun k hk => hk.elim) (by simp only [VR, VRl]; exact ⟨_, rfl, rfl⟩) (by simp only [VRl])
  rcases hk with ⟨g', args', q1, q2⟩ | ⟨l, g', tmps, s, b, q0, _⟩
  · have hkey : g' = g ∧ args' = #[] := by
      obtain ⟨d', r1, r2⟩ := invoke_fn hE #[] #[] w
      rw [r1] at hd
      simp only [Result.ok.injEq, and_true] at hd
      rw [← hd, r2] at q1
      simp only [Result.ok.injEq, Next.enter.injEq, and_true] at q1
      exact ⟨q1.1.symm, by rw [← q1.2]; rfl⟩
    obtain ⟨rfl, rfl⟩ := hkey
    refine (callsIn_wide.1 q2).mono fun e' w' ⟨u, ρ', h1, p, hu⟩ => ⟨u, _, ρ', h1, hu, p.rel, p.lt.os, p.lt.tape, p.lt.output, p.lt.size, fun k hk => p.fr k hk fun j hl => ?_⟩
    unfold H.live at hl; rw [hbare] at hl; cases hl
  · cases q0
end CI
end Go.Proofs.YtcgjmdpcplhanaaGreat
namespace Go.Proofs.YtcgjmdpcplhanaaGreat
open Go.RowKit Go.BigFrame
attribute [local go_sem ↓] Go.wp_at_zero Go.wp_at_succ
theorem four_mul_le (r y : Nat) : 4 * (r * y) ≤ (r + y) * (r + y) := by
 rcases Nat.le_total r y with h | h <;> obtain ⟨d, rfl⟩ := Nat.le.dest h
 ·have : (r + (r + d)) * (r + (r + d)) = 4 * (r * (r + d)) + d * d := by grind
  omega
 ·have : (y + d + y) * (y + d + y) = 4 * ((y + d) * y) + d * d := by grind
  omega
theorem newton_up {a r : Nat} (hr : 0 < r) : a < ((r + a / r) / 2 + 1) * ((r + a / r) / 2 + 1) := by
 have h1 : a < r * (a / r + 1) := by
  have := Nat.div_add_mod a r; have := Nat.mod_lt a hr
  rw [Nat.mul_add, Nat.mul_one]; omega
 generalize a / r = q at *
 have h2 := four_mul_le r (q + 1)
 have h3 : r + (q + 1) ≤ 2 * ((r + q) / 2 + 1) := by omega
 generalize (r + q) / 2 + 1 = m at *
 have h4 := Nat.mul_le_mul h3 h3
 have h5 : 2 * m * (2 * m) = 4 * (m * m) := by grind
 omega
theorem newton_end {a r : Nat} (h : r ≤ (r + a / r) / 2) : r * r ≤ a := by
 have h1 : r ≤ a / r := by omega
 exact Nat.le_trans (Nat.mul_le_mul_left r h1) (Nat.mul_div_le a r)
theorem nf_one_high (n : Nat) : Dg.NF B32 ((List.replicate (n + 1) 0).set n 1) ∧ Dg.vl B32 ((List.replicate (n + 1) 0).set n 1) = B32 ^ n := by
 have e : (List.replicate (n + 1) 0).set n 1 = List.replicate n 0 ++ [1] := by
  rw [List.replicate_succ', List.set_append_right _ _ (by simp)]; simp
 rw [e]
 refine ⟨⟨Dg.dig_append (Dg.dig_zeros (by decide) _) (fun x hx => by rw [List.mem_singleton.1 hx]; decide), by simp⟩, ?_⟩
 rw [Dg.vl_append, Dg.vl_zeros]; simp [Dg.vl]
theorem RowU.made_set (W : World) (N k d : Nat) (hk : k < N) : RowU (W.alloc (.cells ((madeCells #[.int .u32 0] N).setIfInBounds k (.int .u32 (d : Int))) 138)) W.heap.size ((List.replicate N 0).set k d) := by
 have h := (RowU.made W N).set (k := k) (by simpa using hk) d
 simpa only [go_sem] using h
structure RC (wr : World) (a : Option Addr) (l : List Nat) (L k : Nat) (a1 : Option Addr) (l1 : List Nat) (c1 : Nat) : Prop where
 w0 : WS wr a l
 w1 : WS wr a1 l1
 n1 : Dg.NF B32 l1
 h1 : l1.length ≤ c1
 b1 : l1.length ≤ L
 p : 0 < Dg.vl B32 l1
 u : Dg.vl B32 l < (Dg.vl B32 l1 + 1) * (Dg.vl B32 l1 + 1)
 k : k = Dg.vl B32 l1
def RtRes (u : Nat) (e : Ending) (w' : World) : Prop := ∃ z r, e = .returned (.tuple #[.agg #[.bool z.s, .slice z.a z.n z.cap], .int .i64 0]) ∧ IZ w' z ((r : Nat) : Int) ∧ r * r ≤ u ∧ u < (r + 1) * (r + 1)
set_option maxRecDepth 10000 in
set_option maxHeartbeats 8000000 in
theorem root_any (x : IV) (u : Int) (fu : Fit u) (hu : 0 ≤ u) (w : World) (hx : IP w x u) :
  Calls Tryz.prog 203 #[.agg #[.bool x.s, .slice x.a x.n x.cap]] w fun e w' => RtRes u.toNat e w' ∧ Below w.heap.size w w' := by
 obtain ⟨l, h1, rfl⟩ := hx
 have bl := fit_len h1.nf fu
 have S1 := Lib.hid (fun w (h : IW w x l) => size_any x l (by omega) w h)
 have H1 := Lib.hid h1
 by_cases hl0 : l = []
 ·have hv0 : Dg.iv x.s (Dg.vl B32 l) = 0 := by rw [hl0]; exact Dg.iv_zero _
  rw [hv0]
  have hml : l.length = 0 := by rw [hl0]; rfl
  rw [hml] at S1
  obtain ⟨s, a, n, cap⟩ := x
  simp only [] at S1
  clear h1 fu hv0 hml hl0 hu
  go_enter Tryz.func203, Tryz.ntmps203
  go_wp2_with (first | (go_at_call 163; (with_reducible refine (S1.out _ ?_).mono ?_); (focus (exact H1.out.below (B := w.heap.size) zb97 (Nat.le_refl _))); rintro e w1 ⟨rfl, hb1⟩; obtain ⟨g1, rfl⟩ := mob hb1; clear hb1))
  refine bodyPost_ret (v := .tuple #[.agg #[.bool ((⟨false, none, 0, 0⟩ : IV)).s, .slice ((⟨false, none, 0, 0⟩ : IV)).a ((⟨false, none, 0, 0⟩ : IV)).n ((⟨false, none, 0, 0⟩ : IV)).cap], .int .i64 0]) (by simp [results, Tryz.results203, go_sem]) rfl ?_
  exact ⟨⟨⟨false, none, 0, 0⟩, 0, rfl, IZ.zero _, by simp, by simp⟩, by exact bel⟩
 have hvp := Dg.nf_pos h1.nf hl0 (by decide)
 have hs : x.s = false := by
  cases hxs : x.s with
  | false => rfl
  | true => rw [hxs] at hu; simp [Dg.iv] at hu; omega
 have hut : (Dg.iv x.s (Dg.vl B32 l)).toNat = Dg.vl B32 l := by rw [hs]; simp [Dg.iv]
 rw [hut]
 have hlp : 0 < l.length := List.length_pos_iff.2 hl0
 obtain ⟨n, hn⟩ : ∃ n, n = l.length / 2 + 1 := ⟨_, rfl⟩
 have m1 : ¬ l.length = 0 := by omega
 have m2 : ¬ (l.length : Int) = 0 := by omega
 have m3 : ((l.length : Int) == 0) = false := by simpa using hl0
 have hmk : ∀ w : World, (Instr.makeSlice 176 (.int .i64 ((l.length : Int) / 2 + 2)) (.int .i64 ((l.length : Int) / 2 + 2))).run Tryz.prog w = .ok (.slice (some ⟨w.heap.size, 0, none⟩) (n + 1) (n + 1)) (w.alloc (.cells (madeCells #[.int .u32 0] (n + 1)) 138)) := fun w => by
  have := run_make_row' (P := Tryz.prog) 176 138 (.int .u32 0) 4 Tryz.underlying176 u32Info rfl .i64 .i64 (n + 1) (by omega) (by omega) w
  rw [show ((n + 1 : Nat) : Int) = (l.length : Int) / 2 + 2 by omega] at this
  exact this
 have start : Hid (Dg.vl B32 l < (B32 ^ n + 1) * (B32 ^ n + 1)) := by
  refine Nat.lt_of_lt_of_le (Dg.vl_lt h1.nf.dg) (Nat.le_trans (Nat.pow_le_pow_right (n := B32) (by decide) (show l.length ≤ n + n by omega)) ?_)
  rw [Nat.pow_add]
  exact Nat.mul_le_mul (Nat.le_succ _) (Nat.le_succ _)
 have DV := Lib.hid (fun lb a b ca cb hb hb0 hca w h1' h2 => divide_any l lb a b ca cb h1.nf hb hb0 (by omega) hca w h1' h2)
 have MA := Lib.hid (fun (k : List Nat) a c (hc : k.length ≤ c) (hk : Dg.NF B32 k) (hb : k.length ≤ 3000000000000) w h => made_any false k a c hb hc hk.dg w h)
 obtain ⟨s, a, p0, cap⟩ := x
 simp only [] at S1 DV hs
 subst hs
 clear h1 fu hu hut hl0 hvp
 generalize hq : l.length = q at *
 have HQ := Lib.hid hq
 have HN := 0
 clear hq HN
 subst hn
 go_enter Tryz.func203, Tryz.ntmps203
 go_upto_region 7 with (first | (go_at_call 163; (with_reducible refine (S1.out _ ?_).mono ?_); (focus (exact H1.out.below (B := w.heap.size) zb97 (Nat.le_refl _))); rintro e w1 ⟨rfl, hb1⟩; obtain ⟨g1, rfl⟩ := mob hb1; clear hb1))
 have RU := RowU.made (more ((w.alloc (.cells #[.bool false, .slice a p0 cap] 62)).alloc (.cells #[.bool false, .slice none 0 0] 62)) g1) (q / 2 + 1 + 1)
 have HB := Lib.hid RU
 have c0 := RU.cell (k := q / 2 + 1) (by simp)
 have f0 := RU.frozen (q / 2 + 1)
 simp only [size_more_eq, World.size_alloc] at c0 f0
 clear RU hmk
 have hB0 : Below w.heap.size w (more ((w.alloc (.cells #[.bool false, .slice a p0 cap] 62)).alloc (.cells #[.bool false, .slice none 0 0] 62)) g1) := by exact bel
 have G0 : Hid (RC ((more ((w.alloc (.cells #[.bool false, .slice a p0 cap] 62)).alloc (.cells #[.bool false, .slice none 0 0] 62)) g1).alloc (.cells ((madeCells #[.int .u32 0] (q / 2 + 1 + 1)).setIfInBounds (q / 2 + 1) (.int .u32 1)) 138)) a l 300000000000 (B32 ^ (q / 2 + 1)) (some ⟨w.heap.size + 1 + 1 + g1.2.size, 0, none⟩) ((List.replicate (q / 2 + 1 + 1) 0).set (q / 2 + 1) 1) (q / 2 + 1 + 1)) := by
  obtain ⟨n1, n2⟩ := nf_one_high (q / 2 + 1)
  refine ⟨H1.out.ws.below (hB0.trans (Below.alloc (Below.refl _ _) hB0.size _)) (Nat.le_refl _), ?_, n1, by simp, by simp; omega, by rw [n2]; exact Nat.pow_pos (by decide), by rw [n2]; exact start.out, n2.symm⟩
  have := (RowU.made_set (more ((w.alloc (.cells #[.bool false, .slice a p0 cap] 62)).alloc (.cells #[.bool false, .slice none 0 0] 62)) g1) (q / 2 + 1 + 1) (q / 2 + 1) 1 (by omega)).ws
  simp only [size_more_eq, World.size_alloc] at this
  exact this
 go_wp2_with fail
 clear hB0 start c0 f0 HB
 go_loopg [5] (B32 ^ (q / 2 + 1)) (fun k A wr => ∃ (a1 : Option Addr) (l1 : List Nat) (c1 : Nat), A = .slice a1 l1.length c1 ∧ Ext ((more ((w.alloc (.cells #[.bool false, .slice a p0 cap] 62)).alloc (.cells #[.bool false, .slice none 0 0] 62)) g1).alloc (.cells ((madeCells #[.int .u32 0] (q / 2 + 1 + 1)).setIfInBounds (q / 2 + 1) (.int .u32 1)) 138)) wr ∧ Hid (RC wr a l 300000000000 k a1 l1 c1))
 case atStart => exact ⟨_, _, q / 2 + 1 + 1, by simp, Ext.refl _, G0.out⟩
 case round =>
  obtain ⟨a1, l1, c1, rfl, hext, HG⟩ := hrel
  obtain ⟨gx, rfl⟩ := mob (Ext.below hext)
  clear hext G0
  have PL : Hid (∀ (k m : List Nat) (a b : Option Addr) (c cb : Nat), Dg.NF B32 k → Dg.NF B32 m → k.length ≤ 300000000000 → m.length ≤ 300000000000 → ∀ w, WS w a k → WS w b m → Calls Tryz.prog 194 #[.slice a k.length c, .slice b m.length cb] w fun e w' => WRes w' e (Dg.vl B32 k + Dg.vl B32 m) ∧ Below w.heap.size w w') :=
   fun k m a b c cb hk hm bk bm w ha hb => plus_any k m a b c cb hk.dg hm.dg (by omega) (by omega) w ha hb
  have SH : Hid (∀ (k : List Nat) (a : Option Addr) (c : Nat), Dg.NF B32 k → k.length ≤ 1000000000000 → ∀ w, WS w a k → Calls Tryz.prog 209 #[.slice a k.length c, .int .u32 2] w fun e w' => (∃ a' l', e = .returned (.tuple #[.slice a' l'.length l'.length, .int .u32 ((Dg.vl B32 k % 2 : Nat) : Int)]) ∧ WS w' a' l' ∧ Dg.NF B32 l' ∧ Dg.vl B32 l' = Dg.vl B32 k / 2) ∧ Below w.heap.size w w') :=
   fun k a c hk bk w ha => short_any k a c 2 (by omega) hk.dg bk w ha
  have CM := Lib.hid (fun (k m : List Nat) (a b : Option Addr) (c cb : Nat) (hk : Dg.NF B32 k) (hm : Dg.NF B32 m) (bk : k.length ≤ 3000000000000) w ha hb => compare_any k m a b c cb hk hm bk w ha hb)
  have hne : l1 ≠ [] := fun e => by have := HG.out.p; rw [e] at this; simp [Dg.vl] at this
  have DV1 := Lib.hid (DV.out l1 a a1 q c1 HG.out.n1 hne (Nat.le_refl _) _ HG.out.w0 HG.out.w1)
  clear DV hne
  obtain ⟨U, hU⟩ : ∃ U, U = (Dg.vl B32 l1 + Dg.vl B32 l / Dg.vl B32 l1) / 2 := ⟨_, rfl⟩
  have UP : Hid (Dg.vl B32 l < (U + 1) * (U + 1)) := by rw [hU]; exact newton_up HG.out.p
  have UE : Hid (Dg.vl B32 l1 ≤ U → Dg.vl B32 l1 * Dg.vl B32 l1 ≤ Dg.vl B32 l) := by rw [hU]; exact newton_end
  have U0 : Hid (0 < U) := by
   have h1 := HG.out.p; have h2 := UP.out
   rcases Nat.eq_zero_or_pos U with h3 | h3
   ·rw [h3] at h2
    have h4 : Dg.vl B32 l = 0 := by omega
    exact absurd (Dg.nf_pos H1.out.nf (fun e => by have := HQ.out; rw [e] at this; simp at this; omega) (by decide)) (by omega)
   ·exact h3
  have HU := Lib.hid hU
  clear hU
  by_cases hlt : U < Dg.vl B32 l1
  ·have cz : cmpN U (Dg.vl B32 l1) = -1 := by unfold cmpN; rw [if_pos hlt]
   have CZ := Lib.hid cz
   have HLT := Lib.hid hlt
   clear cz hlt
   go_wp2_with (first | (go_at_call 193; (with_reducible refine (DV1.out).mono ?_); rintro e w3 ⟨a3, l3, c3, a4, l4, c4, rfl, d1, d2, d3, d4, d5, d6, d7, d8, hb3⟩; have D := Lib.hid (And.intro d1 (And.intro d3 (And.intro d5 d7))); clear d1 d2 d3 d4 d5 d6 d7 d8; have HB3 := Lib.hid hb3; obtain ⟨g3, rfl⟩ := mob hb3; clear hb3) | (go_at_call 194; (with_reducible refine (PL.out l1 l3 a1 a3 c1 c3 HG.out.n1 D.out.2.2.1 HG.out.b1 ?_ _ ?_ ?_).mono ?_); (focus (refine Nat.le_trans (vl_mono_len D.out.2.2.1 H1.out.nf.dg ?_) ?_; (focus (rw [D.out.2.2.2]; exact Nat.div_le_self _ _)); (focus (rw [HQ.out]; omega)))); (focus (exact HG.out.w1.below HB3.out (Nat.le_refl _))); (focus (exact D.out.2.1)); rintro e w5 ⟨⟨a5, l5, rfl, r1, r2, r3⟩, hb5⟩; have R5 := Lib.hid (And.intro r1 (And.intro r2 r3)); clear r1 r2 r3; have HB5 := Lib.hid (HB3.out.trans (hb5.mono HB3.out.size)); obtain ⟨g5, rfl⟩ := mob hb5; clear hb5) | (go_at_call 209; (with_reducible refine (SH.out l5 a5 l5.length R5.out.2.1 ?_ _ R5.out.1).mono ?_); (focus (have h5 := sum_lt (Dg.vl_lt HG.out.n1.dg) (Dg.vl_lt D.out.2.2.1.dg); rw [← R5.out.2.2] at h5; have h6 := len_le R5.out.2.1 h5; have h7 := HG.out.b1; have h8 : l3.length ≤ q := zb46; omega)); rintro e w6 ⟨⟨a6, l6, rfl, r1, r2, r3⟩, hb6⟩; rw [R5.out.2.2, D.out.2.2.2, ← HU.out] at r3; have R6 := Lib.hid (And.intro r1 (And.intro r2 r3)); clear r1 r2 r3; have HB6 := Lib.hid (HB5.out.trans (hb6.mono HB5.out.size)); obtain ⟨g6, rfl⟩ := mob hb6; clear hb6) | (go_at_call 208; (with_reducible refine (CM.out l6 l1 a6 a1 l6.length c1 R6.out.2.1 HG.out.n1 ?_ _ R6.out.1 (HG.out.w1.below HB6.out (Nat.le_refl _))).mono ?_); (focus (have h9 := vl_mono_len R6.out.2.1 HG.out.n1.dg (by rw [R6.out.2.2]; exact Nat.le_of_lt HLT.out); have := HG.out.b1; omega)); rintro e w7 ⟨rfl, hb7⟩; rw [R6.out.2.2, CZ.out]; have R7 := Lib.hid (R6.out.1.below hb7 (Nat.le_refl _)); have HB7 := Lib.hid (HB6.out.trans (hb7.mono HB6.out.size)); obtain ⟨g7, rfl⟩ := mob hb7; clear hb7))
   go_roundg U
   case measure => rw [HG.out.k]; exact HLT.out
   case rel => exact ⟨a6, l6, l6.length, rfl, ext_mk zb97, HG.out.w0.below HB7.out (Nat.le_refl _), R7.out, R6.out.2.1, Nat.le_refl _, Nat.le_trans (vl_mono_len R6.out.2.1 HG.out.n1.dg (by rw [R6.out.2.2]; exact Nat.le_of_lt HLT.out)) HG.out.b1, by rw [R6.out.2.2]; exact U0.out, by rw [R6.out.2.2]; exact UP.out, R6.out.2.2.symm⟩
  ·obtain ⟨C, hC0, hC⟩ : ∃ C : Int, 0 ≤ C ∧ cmpN U (Dg.vl B32 l1) = C := ⟨_, by unfold cmpN; rw [if_neg hlt]; split <;> decide, rfl⟩
   have CZ := Lib.hid hC
   have HE := Lib.hid (UE.out (Nat.le_of_not_lt hlt))
   have hC1 : decide ((0 : Int) ≤ C) = true := by rw [decide_eq_true_iff]; exact hC0
   clear hC hlt
   go_wp2_with (first | (go_at_call 193; (with_reducible refine (DV1.out).mono ?_); rintro e w3 ⟨a3, l3, c3, a4, l4, c4, rfl, d1, d2, d3, d4, d5, d6, d7, d8, hb3⟩; have D := Lib.hid (And.intro d1 (And.intro d3 (And.intro d5 d7))); clear d1 d2 d3 d4 d5 d6 d7 d8; have HB3 := Lib.hid hb3; obtain ⟨g3, rfl⟩ := mob hb3; clear hb3) | (go_at_call 194; (with_reducible refine (PL.out l1 l3 a1 a3 c1 c3 HG.out.n1 D.out.2.2.1 HG.out.b1 ?_ _ ?_ ?_).mono ?_); (focus (refine Nat.le_trans (vl_mono_len D.out.2.2.1 H1.out.nf.dg ?_) ?_; (focus (rw [D.out.2.2.2]; exact Nat.div_le_self _ _)); (focus (rw [HQ.out]; omega)))); (focus (exact HG.out.w1.below HB3.out (Nat.le_refl _))); (focus (exact D.out.2.1)); rintro e w5 ⟨⟨a5, l5, rfl, r1, r2, r3⟩, hb5⟩; have R5 := Lib.hid (And.intro r1 (And.intro r2 r3)); clear r1 r2 r3; have HB5 := Lib.hid (HB3.out.trans (hb5.mono HB3.out.size)); obtain ⟨g5, rfl⟩ := mob hb5; clear hb5) | (go_at_call 209; (with_reducible refine (SH.out l5 a5 l5.length R5.out.2.1 ?_ _ R5.out.1).mono ?_); (focus (have h5 := sum_lt (Dg.vl_lt HG.out.n1.dg) (Dg.vl_lt D.out.2.2.1.dg); rw [← R5.out.2.2] at h5; have h6 := len_le R5.out.2.1 h5; have h7 := HG.out.b1; have h8 : l3.length ≤ q := zb46; omega)); rintro e w6 ⟨⟨a6, l6, rfl, r1, r2, r3⟩, hb6⟩; rw [R5.out.2.2, D.out.2.2.2, ← HU.out] at r3; have R6 := Lib.hid (And.intro r1 (And.intro r2 r3)); clear r1 r2 r3; have HB6 := Lib.hid (HB5.out.trans (hb6.mono HB5.out.size)); obtain ⟨g6, rfl⟩ := mob hb6; clear hb6) | (go_at_call 208; (with_reducible refine (CM.out l6 l1 a6 a1 l6.length c1 R6.out.2.1 HG.out.n1 ?_ _ R6.out.1 (HG.out.w1.below HB6.out (Nat.le_refl _))).mono ?_); (focus (have h9 := vl_mono_len R6.out.2.1 R5.out.2.1.dg (by rw [R6.out.2.2, R5.out.2.2, D.out.2.2.2, HU.out]; exact Nat.div_le_self _ _); have h5 := sum_lt (Dg.vl_lt HG.out.n1.dg) (Dg.vl_lt D.out.2.2.1.dg); rw [← R5.out.2.2] at h5; have h6 := len_le R5.out.2.1 h5; have h7 := HG.out.b1; have h8 : l3.length ≤ q := zb46; omega)); rintro e w7 ⟨rfl, hb7⟩; rw [R6.out.2.2, CZ.out]; have R7 := Lib.hid (R6.out.1.below hb7 (Nat.le_refl _)); have HB7 := Lib.hid (HB6.out.trans (hb7.mono HB6.out.size)); obtain ⟨g7, rfl⟩ := mob hb7; clear hb7) | (go_at_call 162; (with_reducible refine (MA.out l1 a1 c1 HG.out.h1 HG.out.n1 (by have := HG.out.b1; omega) _ (HG.out.w1.below HB7.out (Nat.le_refl _))).mono ?_); rintro e w8 ⟨⟨y, rfl, hy⟩, hb8⟩; have HY := Lib.hid (show IZ w8 y ((Dg.vl B32 l1 : Nat) : Int) from hy); clear hy; obtain ⟨g8, rfl⟩ := mob hb8; clear hb8))
   refine bodyPost_ret (v := .tuple #[.agg #[.bool y.s, .slice y.a y.n y.cap], .int .i64 0]) (by simp [results, Tryz.results203, go_sem]) rfl ?_
   exact ⟨⟨y, _, rfl, IZ.off' HY.out (by exact off1), HE.out, HG.out.u⟩, by exact bel⟩
end Go.Proofs.YtcgjmdpcplhanaaGreat
namespace Go.Proofs.YtcgjmdpcplhanaaGreat
open Go.RowKit
namespace CI
def bnd (z : Int) : Bool := Nat.blt z.natAbs 1208925819614629174706176
def i64 (n : Int) : C := .sc (.int .i64 n)
def o1 (f : Int → Option C) : Orc := fun l => match l with
 | [a] => match asNm a with
  | some z => match bnd z with
   | true => f z
   | false => none
  | none => none
 | _ => none
def o2 (f : Int → Int → Option C) : Orc := fun l => match l with
 | [a, b] => match asNm a with
  | some y => match asNm b with
   | some z => match bnd y with
    | true => match bnd z with
     | true => f y z
     | false => none
    | false => none
   | none => none
  | none => none
 | _ => none
def sg (z : Int) : Int := match z with | .negSucc _ => -1 | .ofNat 0 => 0 | .ofNat (_ + 1) => 1
def sqf : Nat → Nat → Nat → Nat
 | 0, _, r => r
 | f + 1, n, r => match Nat.ble ((r + 1) * (r + 1)) n with
  | true => sqf f n (r + 1)
  | false => r
def isz (z : Int) : Bool := match z with | .ofNat 0 => true | _ => false
def oAdd : Orc := o2 fun a b => some (.nm (a + b))
def oSub : Orc := o2 fun a b => some (.nm (a - b))
def oMul : Orc := o2 fun a b => some (.nm (a * b))
def oDivMod : Orc := o2 fun a b => match isz b with | true => none | false => some (.tp [.nm (a / b), .nm (a % b), i64 0])
def oCmp : Orc := o2 fun a b => some (i64 (sg (a - b)))
def oGcd : Orc := o2 fun a b => some (.nm (Int.gcd a b))
def oOf : Orc := fun l => match l with
 | [.sc (.int .i64 n)] => match Nat.blt n.natAbs 4611686018427387904 with
  | true => some (.nm n)
  | false => none
 | _ => none
def oSmall : Orc := o1 fun a => match Nat.blt a.natAbs 4611686018427387904 with
 | true => some (.tp [i64 a, .sc (.bool true)])
 | false => none
def oNormal : Orc := o1 fun a => some (.nm a)
def rt (n r : Nat) : Option C := match Nat.ble (r * r) n with
  | true => match Nat.blt n ((r + 1) * (r + 1)) with
   | true => some (.tp [.nm r, i64 0])
   | false => none
  | false => none
def oRoot : Orc := o1 fun a => match a with
 | .ofNat n => rt n (sqf 10000 n 0)
 | _ => none
def oZero : Orc := o1 fun a => some (.sc (.bool (isz a)))
def oSign : Orc := o1 fun a => some (i64 (sg a))
def oNeg : Orc := o1 fun a => some (.nm (-a))
def oSize : Orc := o1 fun a => some (.nm a.natAbs)
def oQuo : Orc := o2 fun a b => match isz b with | true => none | false => some (.nm (a / b))
def lookO : List (Nat × Orc) → Nat → Option Orc
 | [], _ => none
 | (k, o) :: l, n => match Nat.beq k n with | true => some o | false => lookO l n
def orcT : List (Nat × Orc) := [(190, oAdd), (159, oSub), (117, oMul), (167, oDivMod), (161, oCmp), (165, oGcd), (124, oOf), (120, oSmall), (112, oNormal), (203, oRoot), (95, oZero), (101, oSign), (102, oNeg), (185, oSize), (121, oQuo)]
def theE (P : Program) : Env := ⟨compF P, lookO orcT⟩
theorem theE_fns (P : Program) : (theE P).fns = compF P := rfl
theorem fit_of_bnd {z : Int} (h : bnd z = true) : Fit z := by
 unfold bnd at h
 rw [Nat.blt_eq] at h
 exact ⟨3, by omega, Nat.lt_trans h (by decide)⟩
section
variable {P : Program} {A : Nat → Prop} {ρ : Nat → Nat} {w : World}
theorem asNm_iz {c : C} {z : Int} {v : Value} (h : asNm c = some z) (hv : VR P A ρ w c v) : ∃ x : IV, v = .agg #[.bool x.s, .slice x.a x.n x.cap] ∧ IZ w x z := by
 unfold asNm at h
 split at h
 ·cases h
  simp only [VR] at hv
  exact hv
 ·cases h
  simp only [VR, VCs] at hv
  obtain ⟨cs, rfl, h1, u, r, h2, ⟨h3, _⟩, h4, u2, r2, h5, ⟨h6, _⟩, h7⟩ := hv
  subst h3; subst h6; subst h7; subst h5
  refine ⟨⟨false, none, 0, 0⟩, ?_, IZ.zero w⟩
  have : cs = #[.bool false, .slice none 0 0] := by apply Array.ext'; rw [h2]; rfl
  rw [this]
 ·cases h
def Ans (P : Program) (g : Nat) (vs : Array Value) (w : World) (c : C) : Prop := Calls P g vs w (fun e w' => ∃ u, e = .returned u ∧ (∀ A ρ, VR P A ρ w' c u) ∧ Below w.heap.size w w')
theorem Ans.calls {g : Nat} {vs : Array Value} {c : C} (h : Ans P g vs w c) (A : Nat → Prop) (ρ : Nat → Nat) : Calls P g vs w (fun e w' => ∃ u, e = .returned u ∧ VR P A ρ w' c u ∧ Below w.heap.size w w') := by
 unfold Ans at h
 refine h.mono ?_
 rintro e w' ⟨u, h1, h2, h3⟩
 exact ⟨u, h1, h2 A ρ, h3⟩
theorem o1_ok {g : Nat} {f : Int → Option C} (hE : Enters P g) (H : ∀ (x : IV) (z : Int) (w : World) (c : C), Fit z → IZ w x z → f z = some c → Ans P g #[.agg #[.bool x.s, .slice x.a x.n x.cap]] w c) :
  ∀ args r, o1 f args = some r → ∀ A ρ w vs, VRl P A ρ w args vs.toList → Enters P g ∧ Calls P g vs w (fun e w' => ∃ u, e = .returned u ∧ VR P A ρ w' r u ∧ Below w.heap.size w w') := by
 intro args r e A ρ w vs hv
 refine ⟨hE, ?_⟩
 unfold o1 at e
 split at e
 ·next a =>
  split at e
  ·next z hz =>
   split at e
   ·next hb =>
    simp only [VRl] at hv
    obtain ⟨u, r', h1, h2, h3⟩ := hv
    subst h3
    obtain ⟨x, rfl, hx⟩ := asNm_iz hz h2
    have : vs = #[.agg #[.bool x.s, .slice x.a x.n x.cap]] := by apply Array.ext'; rw [h1]
    rw [this]
    exact (H x z w r (fit_of_bnd hb) hx e).calls A ρ
   ·cases e
  ·cases e
 ·cases e
theorem o2_ok {g : Nat} {f : Int → Int → Option C} (hE : Enters P g) (H : ∀ (x y : IV) (u v : Int) (w : World) (c : C), Fit u → Fit v → IZ w x u → IZ w y v → f u v = some c → Ans P g #[.agg #[.bool x.s, .slice x.a x.n x.cap], .agg #[.bool y.s, .slice y.a y.n y.cap]] w c) :
  ∀ args r, o2 f args = some r → ∀ A ρ w vs, VRl P A ρ w args vs.toList → Enters P g ∧ Calls P g vs w (fun e w' => ∃ u, e = .returned u ∧ VR P A ρ w' r u ∧ Below w.heap.size w w') := by
 intro args r e A ρ w vs hv
 refine ⟨hE, ?_⟩
 unfold o2 at e
 split at e
 ·next a b =>
  split at e
  ·next y hy =>
   split at e
   ·next z hz =>
    split at e
    ·next hb =>
     split at e
     ·next hb2 =>
      simp only [VRl] at hv
      obtain ⟨u, r', h1, h2, u2, r2, h4, h5, h3⟩ := hv
      subst h3; subst h4
      obtain ⟨x, rfl, hx⟩ := asNm_iz hy h2
      obtain ⟨x2, rfl, hx2⟩ := asNm_iz hz h5
      have : vs = #[.agg #[.bool x.s, .slice x.a x.n x.cap], .agg #[.bool x2.s, .slice x2.a x2.n x2.cap]] := by apply Array.ext'; rw [h1]
      rw [this]
      exact (H x x2 y z w r (fit_of_bnd hb) (fit_of_bnd hb2) hx hx2 e).calls A ρ
     ·cases e
    ·cases e
   ·cases e
  ·cases e
 ·cases e
theorem vr_nm {z : Int} {x : IV} (h : IZ w x z) (A : Nat → Prop) (ρ : Nat → Nat) : VR P A ρ w (.nm z) (.agg #[.bool x.s, .slice x.a x.n x.cap]) := by
 simp only [VR]; exact ⟨x, rfl, h⟩
theorem vr_i64 (n : Int) (A : Nat → Prop) (ρ : Nat → Nat) : VR P A ρ w (i64 n) (.int .i64 n) := by
 simp only [i64, VR]; exact ⟨trivial, rfl⟩
theorem vr_bool (b : Bool) (A : Nat → Prop) (ρ : Nat → Nat) : VR P A ρ w (.sc (.bool b)) (.bool b) := by
 simp only [VR]; exact ⟨trivial, rfl⟩
theorem ans_nm {g : Nat} {vs : Array Value} {z : Int} (h : Calls P g vs w fun e w' => (∃ x : IV, e = .returned (.agg #[.bool x.s, .slice x.a x.n x.cap]) ∧ IZ w' x z) ∧ Below w.heap.size w w') : Ans P g vs w (.nm z) := by
 unfold Ans
 refine h.mono ?_
 rintro e w' ⟨⟨x, rfl, hx⟩, hb⟩
 exact ⟨_, rfl, vr_nm hx, hb⟩
theorem ans_i64 {g : Nat} {vs : Array Value} {z : Int} (h : Calls P g vs w fun e w' => e = .returned (.int .i64 z) ∧ Below w.heap.size w w') : Ans P g vs w (i64 z) := by
 unfold Ans
 refine h.mono ?_
 rintro e w' ⟨rfl, hb⟩
 exact ⟨_, rfl, vr_i64 z, hb⟩
end
theorem sg_eq (z : Int) : sg z = sgn z := by
 unfold sg sgn
 split
 ·next n =>
  have h : Int.negSucc n < 0 := Int.negSucc_lt_zero n
  generalize Int.negSucc n = z at *
  rw [if_neg (by omega), if_pos (by omega)]
 ·rfl
 ·next n =>
  have h : (0 : Int) < Int.ofNat (n + 1) := Int.natCast_pos.2 (Nat.succ_pos n)
  generalize Int.ofNat (n + 1) = z at *
  rw [if_neg (by omega), if_neg (by omega)]
theorem isz_eq (z : Int) : isz z = decide (z = 0) := by
 unfold isz
 split
 ·rfl
 ·next h =>
  symm
  rw [decide_eq_false_iff_not]
  intro e
  exact h e
theorem isz_ne {z : Int} (h : isz z = false) : z ≠ 0 := by
 rw [isz_eq] at h; simpa using h
theorem root_uniq {n r s : Nat} (h1 : r * r ≤ n) (h2 : n < (r + 1) * (r + 1)) (h3 : s * s ≤ n) (h4 : n < (s + 1) * (s + 1)) : r = s := by
 have k1 : r < s + 1 := Nat.lt_of_not_le fun h => by have := Nat.mul_le_mul h h; omega
 have k2 : s < r + 1 := Nat.lt_of_not_le fun h => by have := Nat.mul_le_mul h h; omega
 omega
theorem lookO_mem : ∀ {l : List (Nat × Orc)} {n : Nat} {o : Orc}, lookO l n = some o → (n, o) ∈ l
 | [], _, _, h => by cases h
 | (k, o') :: l, n, o, h => by
  unfold lookO at h
  split at h
  ·next hb =>
   cases h
   rw [Nat.eq_of_beq_eq_true hb]
   exact List.mem_cons_self
  ·exact List.mem_cons_of_mem _ (lookO_mem h)
theorem orcs_ok : OrcOK Tryz.prog (theE Tryz.prog) := by
  intro g f hg
  have hm := lookO_mem (show lookO orcT g = some f from hg)
  simp only [orcT, List.mem_cons, Prod.mk.injEq, List.not_mem_nil, or_false] at hm
  rcases hm with ⟨rfl, rfl⟩ | ⟨rfl, rfl⟩ | ⟨rfl, rfl⟩ | ⟨rfl, rfl⟩ | ⟨rfl, rfl⟩ | ⟨rfl, rfl⟩ | ⟨rfl, rfl⟩ | ⟨rfl, rfl⟩ | ⟨rfl, rfl⟩ | ⟨rfl, rfl⟩ | ⟨rfl, rfl⟩ | ⟨rfl, rfl⟩ | ⟨rfl, rfl⟩ | ⟨rfl, rfl⟩ | ⟨rfl, rfl⟩
  · exact o2_ok (enters_of Tryz.func190 (by kernel_rfl) rfl) fun x y u v w c fu fv hx hy e => by
      cases e; exact ans_nm (add_any x y u v fu fv w hx.ip hy.ip)
  · exact o2_ok (enters_of Tryz.func159 (by kernel_rfl) rfl) fun x y u v w c fu fv hx hy e => by
      cases e; exact ans_nm (sub_any x y u v fu fv w hx.ip hy.ip)
  · exact o2_ok (enters_of Tryz.func117 (by kernel_rfl) rfl) fun x y u v w c fu fv hx hy e => by
      cases e; exact ans_nm (mul_any x y u v fu fv w hx.ip hy.ip)
  · exact o2_ok (enters_of Tryz.func167 (by kernel_rfl) rfl) fun x y u v w c fu fv hx hy e => by
      split at e
      · cases e
      · next hz =>
        cases e
        have hv := isz_ne hz
        unfold Ans
        refine (divmod_any x y u v fu fv w hx.ip hy.ip).mono ?_
        rintro e w' ⟨q, r, rfl, h1, h2, hb⟩
        rw [if_neg hv] at h2
        refine ⟨_, rfl, fun A ρ => ?_, hb⟩
        rw [if_neg hv]
        simp only [VR, VRl]
        exact ⟨_, rfl, _, _, rfl, ⟨q, rfl, h1⟩, _, _, rfl, ⟨r, rfl, h2⟩, _, _, rfl, vr_i64 0 A ρ, rfl⟩
  · exact o2_ok (enters_of Tryz.func161 (by kernel_rfl) rfl) fun x y u v w c fu fv hx hy e => by
      cases e; rw [sg_eq]; exact ans_i64 (cmp_any x y u v fu fv w hx.ip hy.ip)
  · exact o2_ok (enters_of Tryz.func165 (by kernel_rfl) rfl) fun x y u v w c fu fv hx hy e => by
      cases e; exact ans_nm (gcd_any x y u v fu fv w hx.ip hy.ip)
  · intro args r e A ρ w vs hv
    refine ⟨enters_of Tryz.func124 zb95 rfl, ?_⟩
    unfold oOf at e
    split at e
    · next n =>
      split at e
      · next hb =>
        cases e
        rw [Nat.blt_eq] at hb
        simp only [VRl, VR] at hv
        obtain ⟨u, r', h1, ⟨rfl, _⟩, h3⟩ := hv
        subst h3
        have : vs = #[.int .i64 n] := by apply Array.ext'; rw [h1]
        rw [this]
        exact (ans_nm (intOf_any n (by omega) w)).calls A ρ
      · cases e
    · cases e
  · exact o1_ok (enters_of Tryz.func120 (by kernel_rfl) rfl) fun x z w c fz hx e => by
      split at e
      · next hb =>
        cases e
        rw [Nat.blt_eq] at hb
        have hI : I64 z := by unfold I64; omega
        unfold Ans
        refine (small_any x z fz w hx.ip).mono ?_
        rintro e w' ⟨rfl, hb⟩
        refine ⟨_, rfl, fun A ρ => ?_, hb⟩
        rw [show smv z = z from if_pos hI, show decide (I64 z) = true from decide_eq_true hI]
        simp only [VR, VRl]
        exact ⟨_, rfl, _, _, rfl, vr_i64 z A ρ, _, _, rfl, ⟨rfl, rfl⟩, rfl⟩
      · cases e
  · exact o1_ok (enters_of Tryz.func112 (by kernel_rfl) rfl) fun x z w c fz hx e => by
      cases e
      obtain ⟨l, h1, rfl⟩ := hx.ip
      have bl := fit_len h1.nf fz
      exact ans_nm (normal_any x l (by omega) w h1)
  · exact o1_ok (enters_of Tryz.func203 (by kernel_rfl) rfl) fun x z w c fz hx e => by
      split at e
      · next n =>
        generalize sqf 10000 n 0 = r at e
        unfold rt at e
        split at e
        · next h1 =>
          split at e
          · next h2 =>
            cases e
            have k1 := Nat.le_of_ble_eq_true h1
            rw [Nat.blt_eq] at h2
            unfold Ans
            refine (root_any x _ fz (Int.natCast_nonneg n) w hx.ip).mono ?_
            rintro e w' ⟨⟨y, s, rfl, hy, h3, h4⟩, hb⟩
            have : s = r := root_uniq h3 h4 k1 h2
            subst this
            refine ⟨_, rfl, fun A ρ => ?_, hb⟩
            simp only [VR, VRl]
            exact ⟨_, rfl, _, _, rfl, ⟨y, rfl, hy⟩, _, _, rfl, vr_i64 0 A ρ, rfl⟩
          · cases e
        · cases e
      · cases e
  · exact o1_ok (enters_of Tryz.func95 (by kernel_rfl) rfl) fun x z w c fz hx e => by
      cases e
      rw [isz_eq]
      unfold Ans
      refine (wzero_any x z w hx).mono ?_
      rintro e w' ⟨rfl, hb⟩
      exact ⟨_, rfl, fun A ρ => vr_bool _ A ρ, hb⟩
  · exact o1_ok (enters_of Tryz.func101 (by kernel_rfl) rfl) fun x z w c fz hx e => by
      cases e; rw [sg_eq]; exact ans_i64 (wsign_any x z fz w hx.ip)
  · exact o1_ok (enters_of Tryz.func102 (by kernel_rfl) rfl) fun x z w c fz hx e => by
      cases e; exact ans_nm (wneg_any x z fz w hx.ip)
  · exact o1_ok (enters_of Tryz.func185 (by kernel_rfl) rfl) fun x z w c fz hx e => by
      cases e; exact ans_nm (wsize_any x z fz w hx.ip)
  · exact o2_ok (enters_of Tryz.func121 (by kernel_rfl) rfl) fun x y u v w c fu fv hx hy e => by
      split at e
      · cases e
      · cases e; exact ans_nm (wquo_any x y u v fu fv w hx.ip hy.ip)
end CI
end Go.Proofs.YtcgjmdpcplhanaaGreat
namespace Go.Proofs.YtcgjmdpcplhanaaGreat
open Go.RowKit
namespace CI
def isTrue : Option Out → Bool
 | some (.val (.sc (.bool true)) _) => true
 | _ => false
theorem of_isTrue {o : Option Out} (h : isTrue o = true) : ∃ h', o = some (.val (.sc (.bool true)) h') := by
 unfold isTrue at h
 split at h
 ·exact ⟨_, rfl⟩
 ·cases h
set_option maxRecDepth 100000 in
theorem awake_run : isTrue (run (theE Tryz.prog) 3000 (.call (.fn 15 []) [] ⟨0, 0, [], .e⟩)) = true := by kernel_rfl
theorem awake_any (w : World) : Calls Tryz.prog 15 #[] w (fun e w' => e = .returned (.bool true) ∧ Below w.heap.size w w') := by
 obtain ⟨h', e⟩ := of_isTrue awake_run
 refine (run_calls zb95 orcs_ok (theE_fns _) (enters_of Tryz.func15 zb95 rfl) e w).mono ?_
 rintro e w' ⟨u, A, ρ, rfl, h1, _, h2⟩
 simp only [VR] at h1
 exact ⟨by rw [h1.1], h2⟩
end CI
end Go.Proofs.YtcgjmdpcplhanaaGreat
namespace Go.Proofs.YtcgjmdpcplhanaaGreat
open Go.RowKit
namespace DW
theorem awake_d : Fn Tryz.prog 15 [] (.sc (.bool true)) := by
 refine ⟨enters_of Tryz.func15 zb95 rfl, fun X w vs _ hv => ?_⟩
 simp only [ATp] at hv
 have : vs = #[] := Array.toList_inj.1 hv
 subst this
 refine (CI.awake_any w).mono fun e w' ⟨h, hb⟩ => ⟨_, h, ?_, hb⟩
 simp only [AR]; exact ⟨trivial, rfl⟩
theorem smq_no {n : Nat} (h : (!(smq n)) = true) : n ≤ 70 ∧ (n ≤ 64 → n ≤ 5) := by
 unfold smq at h
 simp at h
 omega
theorem smL_len {m : List (List Int)} (h : smL m = true) : m.length ≤ 70 ∧ ∀ l ∈ m, l.length ≤ 70 := by
 unfold smL at h
 rw [Bool.and_eq_true] at h
 exact ⟨(smq_no h.1).1, fun l hl => (smq_no (List.all_eq_true.1 h.2 l hl)).1⟩
theorem smL_five {m : List (List Int)} (h : smL m = true) (hc : chk m = 0) : m.length ≤ 5 ∧ wid m ≤ 5 := by
 obtain ⟨k1, k2, k3, _⟩ := chk_ok hc
 unfold smL at h
 rw [Bool.and_eq_true] at h
 refine ⟨(smq_no h.1).2 k1, ?_⟩
 cases m with
 | nil => exact Nat.zero_le _
 | cons l m =>
  have h1 := k3 l List.mem_cons_self
  have h2 := (smq_no (List.all_eq_true.1 h.2 l List.mem_cons_self)).2 (by omega)
  omega
set_option maxRecDepth 20000
set_option maxHeartbeats 2000000
theorem lawKernel_d (m : List (List Int)) : Fn Tryz.prog 4 [dM m] (.sc (.bool true)) := by
 have SM := smallL_d m
 have AW := awake_d
 by_cases hs : smL m = true
 ·rw [hs] at SM
  obtain ⟨b1, b2⟩ := smL_len hs
  have CK := check_d m (by omega)
  have LK := lkernel_d m (by omega) (fun r hr => by have := b2 r hr; omega) (fun hc => by have := smL_five hs hc; omega)
  by_cases hc : chk m = 0
  ·obtain ⟨b3, b4⟩ := smL_five hs hc
   have KR := kernel_d m hc b3
   have RK := lrank_d m (by omega) (fun r hr => by have := b2 r hr; omega) (fun hc => by omega)
   have hf := Mx.KT_full (chk_ok hc).2.2.1
   have hle := HT_le (chk_ok hc).2.2.1
   have hlr : lrk m = ((HT m).1 : Nat) := if_pos hc
   have hkl := hf.2
   have hrc := KT_rc hc
   rw [hlr, hc] at RK
   rw [hc] at CK
   unfold lkr at LK
   rw [if_neg (fun h => h hc)] at LK
   unfold nrw at KR
   clear hc hf hlr hs b2
   generalize (KT m).2 = R at *
   generalize (HT m).1 = r at *
   have LS := lists_d R R (by omega) (fun l hl => by have := hrc l hl; omega)
   rw [show decide (R = R) = true from decide_eq_true rfl] at LS
   clear hrc
   by_cases hi : R.all (fun l => l.all (inb 1000000000000000)) = true
   ·rw [if_pos hi] at LK KR
    refine fn_of Tryz.func4 zb95 rfl rfl rfl fun X0 => ?_
    simp only [initL]
    (repeat (first | refine gk fun K hK => ?_ | refine zs2 ?_)); refine zs127 ?_; (repeat (first | refine gk fun K hK => ?_ | refine zs2 ?_)); refine zs178 ?_; (repeat (first | refine gk fun K hK => ?_ | refine zs2 ?_))
    refine zs45 ?_
    (repeat (first | refine gk fun K hK => ?_ | refine zs2 ?_)); refine zs179 ?_; (repeat (first | refine gk fun K hK => ?_ | refine zs2 ?_)); refine zs120 ?_; (repeat (first | refine gk fun K hK => ?_ | refine zs2 ?_)); refine zs123 ?_; (repeat (first | refine gk fun K hK => ?_ | refine zs2 ?_))
    refine zs45 ?_
    (repeat (first | refine gk fun K hK => ?_ | refine zs2 ?_)); refine zs179 ?_; (repeat (first | refine gk fun K hK => ?_ | refine zs2 ?_)); refine zs169 ?_; (repeat (first | refine gk fun K hK => ?_ | refine zs2 ?_))
    refine zs45 ?_
    (repeat (first | refine gk fun K hK => ?_ | refine zs2 ?_)); refine zs179 ?_; (repeat (first | refine gk fun K hK => ?_ | refine zs2 ?_)); (refine gar ?_; refine zs4 ?_; refine zs42 ?_; refine zs4 ?_; refine zs8 ?_; refine zs8 ?_; (first | (refine aLs rfl rfl rfl rfl ?_ ?_; (focus (apply look_b; (conv => lhs; whnf); (first | done | exact rfl | (apply sc_bool; (first | (apply decide_eq_true; omega) | (apply decide_eq_false; omega) | assumption | (simp; done))))))) | refine aLw rfl rfl rfl rfl zb30 zb26 ?_); refine zs13 ?_; refine zs4 ?_; refine zs8 ?_; refine zs12 ?_; refine zs13 ?_; refine zs4 ?_; refine zs8 ?_; refine zs60 ?_; refine zs8 ?_; refine zs60 ?_; refine zs8 ?_; (first | (refine aLs rfl rfl rfl rfl ?_ ?_; (focus (apply look_b; (conv => lhs; whnf); (first | done | exact rfl | (apply sc_bool; (first | (apply decide_eq_true; omega) | (apply decide_eq_false; omega) | assumption | (simp; done))))))) | refine aLw rfl rfl rfl rfl zb30 zb15 ?_); (first | (refine aLs rfl rfl rfl rfl ?_ ?_; (focus (apply look_b; (conv => lhs; whnf); (first | done | exact rfl | (apply sc_bool; (first | (apply decide_eq_true; omega) | (apply decide_eq_false; omega) | assumption | (simp; done))))))) | refine aLw rfl rfl rfl rfl zb30 zb12 ?_); refine zs13 ?_; refine zs4 ?_; refine zs112 ?_; refine zs13 ?_; refine zs6 ?_; refine aL_nil ?_); (repeat (first | refine gk fun K hK => ?_ | refine zs2 ?_))
    exact ⟨_, Sh.refl, .one (.tmp 2) _ rfl (.tmp 2 rfl)⟩
   ·rw [if_neg hi] at LK KR
    refine fn_of Tryz.func4 zb95 rfl rfl rfl fun X0 => ?_
    simp only [initL]
    (repeat (first | refine gk fun K hK => ?_ | refine zs2 ?_)); refine zs127 ?_; (repeat (first | refine gk fun K hK => ?_ | refine zs2 ?_)); refine zs178 ?_; (repeat (first | refine gk fun K hK => ?_ | refine zs2 ?_))
    refine zs45 ?_
    (repeat (first | refine gk fun K hK => ?_ | refine zs2 ?_)); refine zs179 ?_; (repeat (first | refine gk fun K hK => ?_ | refine zs2 ?_)); refine zs120 ?_; (repeat (first | refine gk fun K hK => ?_ | refine zs2 ?_)); refine zs123 ?_; (repeat (first | refine gk fun K hK => ?_ | refine zs2 ?_))
    refine zs45 ?_
    (repeat (first | refine gk fun K hK => ?_ | refine zs2 ?_)); refine zs179 ?_; (repeat (first | refine gk fun K hK => ?_ | refine zs2 ?_)); refine zs169 ?_; (repeat (first | refine gk fun K hK => ?_ | refine zs2 ?_))
    refine zs48 ?_
    (repeat (first | refine gk fun K hK => ?_ | refine zs2 ?_)); (refine gar ?_; refine zs4 ?_; refine zs42 ?_; refine zs4 ?_; refine zs8 ?_; refine zs60 ?_; refine zs12 ?_; refine zs13 ?_; refine zs4 ?_; refine zs112 ?_; refine zs13 ?_; refine zs6 ?_; refine aL_nil ?_); (repeat (first | refine gk fun K hK => ?_ | refine zs2 ?_))
    exact ⟨_, Sh.refl, .one (.tmp 2) _ rfl (.tmp 2 rfl)⟩
  ·unfold lkr at LK
   rw [if_pos hc] at LK
   obtain ⟨C, hC⟩ : ∃ C, C = chk m := ⟨_, rfl⟩
   rw [← hC] at LK CK hc
   clear hC
   refine fn_of Tryz.func4 zb95 rfl rfl rfl fun X0 => ?_
   simp only [initL]
   (repeat (first | refine gk fun K hK => ?_ | refine zs2 ?_)); refine zs127 ?_; (repeat (first | refine gk fun K hK => ?_ | refine zs2 ?_)); refine zs178 ?_; (repeat (first | refine gk fun K hK => ?_ | refine zs2 ?_))
   refine zs45 ?_
   (repeat (first | refine gk fun K hK => ?_ | refine zs2 ?_)); refine zs179 ?_; (repeat (first | refine gk fun K hK => ?_ | refine zs2 ?_)); refine zs120 ?_; (repeat (first | refine gk fun K hK => ?_ | refine zs2 ?_)); refine zs123 ?_; (repeat (first | refine gk fun K hK => ?_ | refine zs2 ?_))
   refine zs48 ?_
   (repeat (first | refine gk fun K hK => ?_ | refine zs2 ?_)); (refine gar ?_; refine zs4 ?_; refine zs4 ?_; refine zs76 ?_; refine zs4 ?_; refine zs8 ?_; refine zs60 ?_; refine zs12 ?_; refine zs13 ?_; refine zs4 ?_; refine zs112 ?_; refine zs13 ?_; refine zs6 ?_; refine aL_nil ?_); (repeat (first | refine gk fun K hK => ?_ | refine zs2 ?_))
   exact ⟨_, Sh.refl, .one (.tmp 2) _ rfl (.tmp 2 rfl)⟩
 ·have hs' : smL m = false := by simpa using hs
  rw [hs'] at SM
  refine fn_of Tryz.func4 zb95 rfl rfl rfl fun X0 => ?_
  simp only [initL]
  (repeat (first | refine gk fun K hK => ?_ | refine zs2 ?_)); refine zs127 ?_; (repeat (first | refine gk fun K hK => ?_ | refine zs2 ?_)); refine zs178 ?_; (repeat (first | refine gk fun K hK => ?_ | refine zs2 ?_))
  refine zs48 ?_
  (repeat (first | refine gk fun K hK => ?_ | refine zs2 ?_)); (refine gar ?_; (refine aL1 rfl rfl rfl zb55 ?_); refine zs6 ?_; refine aL_nil ?_); (repeat (first | refine gk fun K hK => ?_ | refine zs2 ?_))
  exact ⟨_, Sh.refl, .one (.tmp 2) _ rfl (.tmp 2 rfl)⟩
end DW
theorem law_kernel (v : Value) (m : List (List Int)) (w : World) (h : DW.AR (fun _ => False) w (DW.dM m) v) : Calls Tryz.prog 4 #[v] w fun e w' => e = .returned (.bool true) ∧ Below w.heap.size w w' := by
 refine ((DW.lawKernel_d m).2 (fun _ => False) w #[v] (fun _ h => h.elim) (by simp only [DW.ATp]; exact ⟨v, [], rfl, h, rfl⟩)).mono fun e w' ⟨u, h1, h2, h3⟩ => ⟨?_, h3⟩
 simp only [DW.AR] at h2
 rw [h1, h2.1]
end Go.Proofs.YtcgjmdpcplhanaaGreat
