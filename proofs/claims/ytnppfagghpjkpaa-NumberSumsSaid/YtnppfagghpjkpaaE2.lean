/- What mod, half, Inverse, power, Power and gcd answer, in the program and in the reference. -/
import Derived.Test.YtnppfagghpjkpaaE1
import Derived.Test.YtnppfagghpjkpaaT3
import Derived.Laws.BitsLemmas
import Derived.Test.YtnppfagghpjkpaaNumx10
import Derived.Test.YtnppfagghpjkpaaNumx2
import Derived.Test.YtnppfagghpjkpaaNumx8
namespace Go.Proofs.Ytnppfagghpjkpaa.Num
set_option linter.unusedVariables false
open Go.RowKit Go.Proofs.YtnppfagghpjkpaaW.PrintWords

theorem rin_yes {a : Int} (h : 1 ≤ a) (h2 : a ≤ 2147483647) : codewrightref03_in.f a = some true := by
  unfold codewrightref03_in.f; rw [if_pos h]; simp [h2]
theorem rin_no {a : Int} (h : a < 1 ∨ 2147483647 < a) : codewrightref03_in.f a = some false := by
  unfold codewrightref03_in.f
  split
  · rw [decide_eq_false (by omega)]
  · rfl
theorem in1_no {a : Int} (h : a < 1 ∨ 2147483647 < a) : number_in.f a 1 = some false := by
  rcases h with h | h
  · exact in_low h
  · exact in_high h

theorem mod_some (a : Int) {n : Int} (h1 : 1 ≤ n) (h2 : n ≤ 2147483647) : number_mod.f a n = some (a % n) := by
  unfold number_mod.f
  rw [if_neg (by omega), ← tmod_fix a (show 0 < n by omega)]
  have h3 := Int.tmod_lt_of_pos a (show 0 < n by omega)
  have h4 := Int.lt_tmod_of_pos a (show 0 < n by omega)
  split
  · rw [w64 (by omega) (by omega)]
  · rfl
theorem Mod_some (a : Int) {n : Int} (h1 : 1 ≤ n) (h2 : n ≤ 2147483647) : codewrightref03_Mod.f a n = some (a % n) := mod_some a h1 h2

/-- The loop of half. -/
theorem half_l0 {a n : Int} (hn : 1 ≤ n) (hn2 : n ≤ 2147483647) : ∀ (m : Nat) (r s u v : Int), s.toNat ≤ m → r ≤ 2147483647 → s ≤ 2147483647 → EInv a n r s u v →
    ∃ g x, Ev (fun k => number_half.l0 k n r s u v) (g, x) ∧ IsHalf a n g x := by
  intro m
  induction m with
  | zero =>
    intro r s u v hm hr hs I
    obtain rfl : s = 0 := by have := I.s0; omega
    obtain ⟨h1, h2, h3⟩ := half_done (by omega) I
    refine ⟨r, u % (n / r), ?_, h3⟩
    refine Ev.step (fun k => number_half.l0.eq_2 ..) (ev_yes rfl (ev_no h1 ?_))
    have hq : n / r ≤ n := Int.ediv_le_self _ (by omega)
    rw [tdiv_pos (by omega), w64 (by omega) (by omega)]
    exact ev_let (mod_some u (by omega) (by omega)) (Ev.now _)
  | succ m ih =>
    intro r s u v hm hr hs I
    by_cases h0 : s = 0
    · subst h0
      obtain ⟨h1, h2, h3⟩ := half_done (by omega) I
      refine ⟨r, u % (n / r), ?_, h3⟩
      refine Ev.step (fun k => number_half.l0.eq_2 ..) (ev_yes rfl (ev_no h1 ?_))
      have hq : n / r ≤ n := Int.ediv_le_self _ (by omega)
      rw [tdiv_pos (by omega), w64 (by omega) (by omega)]
      exact ev_let (mod_some u (by omega) (by omega)) (Ev.now _)
    · obtain ⟨k1, k2, k3, k4, k5, k6⟩ := I.sizes h0
      obtain ⟨d1, d2, d3, d4, d5, d6⟩ := I.div_le h0
      have hr0 := I.r0; have hs0 := I.s0
      obtain ⟨g, x, he, hh⟩ := ih s (r - r / s * s) v (u - r / s * v) (by omega) hs (by omega) (I.step h0)
      refine ⟨g, x, ?_, hh⟩
      refine Ev.step (fun k => number_half.l0.eq_2 ..) (ev_no h0 ?_)
      rw [tdiv_pos I.r0, w64 (show -9223372036854775808 ≤ r / s by omega) (by omega), w64 (show -9223372036854775808 ≤ r / s * s by omega) (by omega), w64 (show -9223372036854775808 ≤ r - r / s * s by omega) (by omega),
        w64 (show -9223372036854775808 ≤ r / s * v by omega) (by omega), w64 (show -9223372036854775808 ≤ u - r / s * v by omega) (by omega)]
      exact he
theorem half_ev {a n : Int} (ha : 0 ≤ a) (ha2 : a ≤ 2147483647) (hn : 1 ≤ n) (hn2 : n ≤ 2147483647) : ∃ g x, Ev (fun k => number_half.f k a n) (g, x) ∧ IsHalf a n g x := by
  unfold number_half.f
  exact half_l0 hn hn2 n.toNat a n 1 0 (Nat.le_refl _) ha2 hn2 (EInv.start ha (by omega))

theorem inverse_l0 {a n : Int} (hn : 1 ≤ n) (hn2 : n ≤ 2147483647) : ∀ (m : Nat) (r s u v : Int), s.toNat ≤ m → r ≤ 2147483647 → s ≤ 2147483647 → EInv a n r s u v →
    ∃ g x, Ev (fun k => codewrightref03_inverse.l0 k n r s u v) (if g = 1 then x else -1) ∧ IsHalf a n g x := by
  intro m
  induction m with
  | zero =>
    intro r s u v hm hr hs I
    obtain rfl : s = 0 := by have := I.s0; omega
    obtain ⟨h1, h2, h3⟩ := half_done (by omega) I
    refine ⟨r, u % (n / r), ?_, h3⟩
    refine Ev.step (fun k => codewrightref03_inverse.l0.eq_2 ..) (ev_yes rfl ?_)
    by_cases h : r = 1
    · refine ev_yes h ?_
      rw [if_pos h, h, Int.ediv_one]
      exact ev_let (Mod_some u (by omega) (by omega)) (Ev.now _)
    · refine ev_no h ?_
      rw [if_neg h]
      exact Ev.now _
  | succ m ih =>
    intro r s u v hm hr hs I
    by_cases h0 : s = 0
    · subst h0
      obtain ⟨h1, h2, h3⟩ := half_done (by omega) I
      refine ⟨r, u % (n / r), ?_, h3⟩
      refine Ev.step (fun k => codewrightref03_inverse.l0.eq_2 ..) (ev_yes rfl ?_)
      by_cases h : r = 1
      · refine ev_yes h ?_
        rw [if_pos h, h, Int.ediv_one]
        exact ev_let (Mod_some u (by omega) (by omega)) (Ev.now _)
      · refine ev_no h ?_
        rw [if_neg h]
        exact Ev.now _
    · obtain ⟨k1, k2, k3, k4, k5, k6⟩ := I.sizes h0
      obtain ⟨d1, d2, d3, d4, d5, d6⟩ := I.div_le h0
      have hr0 := I.r0; have hs0 := I.s0
      obtain ⟨g, x, he, hh⟩ := ih s (r - r / s * s) v (u - r / s * v) (by omega) hs (by omega) (I.step h0)
      refine ⟨g, x, ?_, hh⟩
      refine Ev.step (fun k => codewrightref03_inverse.l0.eq_2 ..) (ev_no h0 ?_)
      rw [tdiv_pos I.r0, w64 (show -9223372036854775808 ≤ r / s by omega) (by omega), w64 (show -9223372036854775808 ≤ r / s * s by omega) (by omega), w64 (show -9223372036854775808 ≤ r - r / s * s by omega) (by omega),
        w64 (show -9223372036854775808 ≤ r / s * v by omega) (by omega), w64 (show -9223372036854775808 ≤ u - r / s * v by omega) (by omega)]
      exact he
theorem inverse_ev (a : Int) {n : Int} (hn : 1 ≤ n) (hn2 : n ≤ 2147483647) : ∃ g x, Ev (fun k => codewrightref03_inverse.f k a n) (if g = 1 then x else -1) ∧ IsHalf (a % n) n g x := by
  unfold codewrightref03_inverse.f
  have h1 := Int.emod_nonneg a (show n ≠ 0 by omega)
  have h2 := Int.emod_lt_of_pos a (show 0 < n by omega)
  obtain ⟨g, x, he, hh⟩ := inverse_l0 (a := a % n) hn hn2 (a % n).toNat n (a % n) 0 1 (Nat.le_refl _) hn2 (by omega) (EInv.start' h1 (by omega))
  exact ⟨g, x, ev_let (Mod_some a hn hn2) he, hh⟩

/-- What both Inverse answer. -/
theorem Inverse_both (a : Int) {n : Int} (hn : 1 ≤ n) (hn2 : n ≤ 2147483647) : ∃ g x, IsHalf (a % n) n g x ∧ Ev (fun k => number_Inverse.f k a n) (if g = 1 then (x, 0) else (0, 11)) ∧ Ev (fun k => codewrightref03_Inverse.f k a n) (if g = 1 then (x, 0) else (0, 11)) := by
  have h1 := Int.emod_nonneg a (show n ≠ 0 by omega)
  have h2 := Int.emod_lt_of_pos a (show 0 < n by omega)
  obtain ⟨g, x, he, hh⟩ := half_ev h1 (show a % n ≤ 2147483647 by omega) hn hn2
  obtain ⟨g', x', he', hh'⟩ := inverse_ev a hn hn2
  obtain rfl : g = g' := by rw [hh.gcd, hh'.gcd]
  obtain rfl := hh.unique (by omega) hh'
  refine ⟨g, x, hh, ?_, ?_⟩
  · unfold number_Inverse.f
    refine ev_let (in_yes hn hn2) (ev_yes rfl (ev_let (mod_some a hn hn2) (Ev.bind he ?_)))
    by_cases h : g = 1
    · refine ev_yes h ?_; rw [if_pos h]; exact Ev.now _
    · refine ev_no h ?_; rw [if_neg h]; exact Ev.now _
  · unfold codewrightref03_Inverse.f
    refine ev_let (rin_yes hn hn2) (ev_yes rfl (Ev.bind he' ?_))
    by_cases h : g = 1
    · rw [if_pos h, if_pos h]; exact ev_no (by have := hh.x0; omega) (Ev.now _)
    · rw [if_neg h, if_neg h]; exact ev_yes (by omega) (Ev.now _)
theorem Inverse_out (a : Int) {n : Int} (h : n < 1 ∨ 2147483647 < n) : Ev (fun k => number_Inverse.f k a n) (0, 6) ∧ Ev (fun k => codewrightref03_Inverse.f k a n) (0, 6) := by
  constructor
  · unfold number_Inverse.f
    exact ev_let (in1_no h) (ev_no (by simp) (Ev.now _))
  · unfold codewrightref03_Inverse.f
    exact ev_let (rin_no h) (ev_no (by simp) (Ev.now _))

/-! ### powers -/
theorem and_one (x : Int) (h0 : 0 ≤ x) (h1 : x ≤ 9223372036854775807) : Go.bits .and .i64 x 1 = x % 2 := by
  have := bits_mask .i64 63 (by decide) (fun n h0 h1 => by rw [IntKind.wrap_i64]; omega) 1 (by decide) x h0 (by omega)
  simpa using this

theorem emod_self_pow (a n : Int) (m : Nat) : (a % n) ^ m % n = a ^ m % n := by
  induction m with
  | zero => simp
  | succ m ih => rw [Int.pow_succ, Int.pow_succ, Int.mul_emod, ih, Int.emod_emod_of_dvd _ (Int.dvd_refl n), ← Int.mul_emod]
theorem pow_step (a out n : Int) (e : Int) (he : 0 < e) : (if e % 2 = 1 then out * a % n else out) * (a * a % n) ^ (e / 2).toNat % n = out * a ^ e.toNat % n := by
  have h2 : (a * a % n) ^ (e / 2).toNat % n = (a * a) ^ (e / 2).toNat % n := emod_self_pow ..
  rw [Int.mul_emod, h2, ← Int.mul_emod]
  have ht : e.toNat = 2 * (e / 2).toNat + (e % 2).toNat := by omega
  have hp : (a * a) ^ (e / 2).toNat = a ^ (2 * (e / 2).toNat) := by
    rw [Int.pow_mul]; congr 1; rw [show (2 : Nat) = 1 + 1 from rfl, Int.pow_add, Int.pow_one]
  rw [hp, ht, Int.pow_add]
  rcases (by omega : e % 2 = 0 ∨ e % 2 = 1) with h | h
  · rw [if_neg (by omega), h]; simp
  · rw [if_pos h, h]
    show out * a % n * a ^ (2 * (e / 2).toNat) % n = out * (a ^ (2 * (e / 2).toNat) * a ^ 1) % n
    rw [Int.pow_one, Int.mul_emod, Int.emod_emod_of_dvd _ (Int.dvd_refl n), ← Int.mul_emod, Int.mul_assoc, Int.mul_comm a]

theorem mul_small {x y n : Int} (hx : 0 ≤ x) (hx2 : x < n) (hy : 0 ≤ y) (hy2 : y < n) (hn : n ≤ 2147483647) : 0 ≤ x * y ∧ x * y ≤ 4611686014132420609 := by
  refine ⟨Int.mul_nonneg hx hy, ?_⟩
  have := Int.mul_le_mul (show x ≤ 2147483647 by omega) (show y ≤ 2147483647 by omega) hy (by omega)
  omega

theorem power_l0 {n : Int} (hn : 1 ≤ n) (hn2 : n ≤ 2147483647) : ∀ (m : Nat) (a e out : Int), e.toNat ≤ m → 0 ≤ e → e ≤ 9223372036854775807 → 0 ≤ a → a < n → 0 ≤ out → out < n →
    Ev (fun k => number_power.l0 k a e n out) (out * a ^ e.toNat % n) := by
  intro m
  induction m with
  | zero =>
    intro a e out hm h1 h2 ha0 ha1 ho0 ho1
    obtain rfl : e = 0 := by omega
    refine Ev.step (fun k => number_power.l0.eq_2 ..) (ev_no (by omega) ?_)
    simp only [Int.toNat_zero, Int.pow_zero, Int.mul_one]
    rw [Int.emod_eq_of_lt ho0 ho1]
    exact Ev.now _
  | succ m ih =>
    intro a e out hm h1 h2 ha0 ha1 ho0 ho1
    by_cases h0 : e = 0
    · subst h0
      refine Ev.step (fun k => number_power.l0.eq_2 ..) (ev_no (by omega) ?_)
      simp only [Int.toNat_zero, Int.pow_zero, Int.mul_one]
      rw [Int.emod_eq_of_lt ho0 ho1]
      exact Ev.now _
    · obtain ⟨q1, q2⟩ := mul_small ha0 ha1 ha0 ha1 hn2
      obtain ⟨q3, q4⟩ := mul_small ho0 ho1 ha0 ha1 hn2
      have s1 := Int.emod_nonneg (a * a) (show n ≠ 0 by omega)
      have s2 := Int.emod_lt_of_pos (a * a) (show 0 < n by omega)
      have s3 := Int.emod_nonneg (out * a) (show n ≠ 0 by omega)
      have s4 := Int.emod_lt_of_pos (out * a) (show 0 < n by omega)
      have hs := pow_step a out n e (by omega)
      refine Ev.step (fun k => number_power.l0.eq_2 ..) (ev_yes (by omega) ?_)
      rw [and_one e h1 h2, w64 (show -9223372036854775808 ≤ a * a by omega) (by omega), w64 (show -9223372036854775808 ≤ out * a by omega) (by omega), tmod_pos q1, tmod_pos q3]
      by_cases h : e % 2 = 1
      · rw [if_pos h] at hs
        refine ev_yes h (ev_no (by omega) ?_)
        rw [← hs]
        exact ih _ _ _ (by omega) (by omega) (by omega) s1 s2 s3 s4
      · rw [if_neg h] at hs
        refine ev_no h (ev_no (by omega) ?_)
        rw [← hs]
        exact ih _ _ _ (by omega) (by omega) (by omega) s1 s2 ho0 ho1
theorem one_mod (n : Int) (hn : 1 ≤ n) : 0 ≤ 1 % n ∧ 1 % n < n := ⟨Int.emod_nonneg _ (by omega), Int.emod_lt_of_pos _ (by omega)⟩
theorem power_ev {a e n : Int} (hn : 1 ≤ n) (hn2 : n ≤ 2147483647) (ha0 : 0 ≤ a) (ha1 : a < n) (he0 : 0 ≤ e) (he1 : e ≤ 9223372036854775807) : Ev (fun k => number_power.f k a e n) (a ^ e.toNat % n) := by
  unfold number_power.f
  refine ev_no (by omega) ?_
  have := power_l0 hn hn2 e.toNat a e (1 % n) (Nat.le_refl _) he0 he1 ha0 ha1 (one_mod n hn).1 (one_mod n hn).2
  refine ev_eq this ?_
  rw [Int.mul_emod, Int.emod_emod_of_dvd _ (Int.dvd_refl n), ← Int.mul_emod, Int.one_mul]

theorem rpower_l0 {n : Int} (hn : 1 ≤ n) (hn2 : n ≤ 2147483647) : ∀ (m : Nat) (a e out : Int), e.toNat ≤ m → 0 ≤ e → e ≤ 9223372036854775807 → 0 ≤ a → a < n → 0 ≤ out → out < n →
    Ev (fun k => codewrightref03_power.l0 k e n a out) (out * a ^ e.toNat % n) := by
  intro m
  induction m with
  | zero =>
    intro a e out hm h1 h2 ha0 ha1 ho0 ho1
    obtain rfl : e = 0 := by omega
    refine Ev.step (fun k => codewrightref03_power.l0.eq_2 ..) (ev_no (by omega) ?_)
    simp only [Int.toNat_zero, Int.pow_zero, Int.mul_one]
    rw [Int.emod_eq_of_lt ho0 ho1]
    exact Ev.now _
  | succ m ih =>
    intro a e out hm h1 h2 ha0 ha1 ho0 ho1
    by_cases h0 : e = 0
    · subst h0
      refine Ev.step (fun k => codewrightref03_power.l0.eq_2 ..) (ev_no (by omega) ?_)
      simp only [Int.toNat_zero, Int.pow_zero, Int.mul_one]
      rw [Int.emod_eq_of_lt ho0 ho1]
      exact Ev.now _
    · obtain ⟨q1, q2⟩ := mul_small ha0 ha1 ha0 ha1 hn2
      obtain ⟨q3, q4⟩ := mul_small ho0 ho1 ha0 ha1 hn2
      have s1 := Int.emod_nonneg (a * a) (show n ≠ 0 by omega)
      have s2 := Int.emod_lt_of_pos (a * a) (show 0 < n by omega)
      have s3 := Int.emod_nonneg (out * a) (show n ≠ 0 by omega)
      have s4 := Int.emod_lt_of_pos (out * a) (show 0 < n by omega)
      have hs := pow_step a out n e (by omega)
      refine Ev.step (fun k => codewrightref03_power.l0.eq_2 ..) (ev_yes (by omega) ?_)
      rw [tmod_pos h1, tdiv_pos h1, w64 (show -9223372036854775808 ≤ e / 2 by omega) (by omega), w64 (show -9223372036854775808 ≤ a * a by omega) (by omega), w64 (show -9223372036854775808 ≤ out * a by omega) (by omega), tmod_pos q1, tmod_pos q3]
      by_cases h : e % 2 = 1
      · rw [if_pos h] at hs
        refine ev_yes h (ev_no (by omega) ?_)
        rw [← hs]
        exact ih _ _ _ (by omega) (by omega) (by omega) s1 s2 s3 s4
      · rw [if_neg h] at hs
        refine ev_no h (ev_no (by omega) ?_)
        rw [← hs]
        exact ih _ _ _ (by omega) (by omega) (by omega) s1 s2 ho0 ho1
theorem rpower_ev {e n : Int} (a : Int) (hn : 1 ≤ n) (hn2 : n ≤ 2147483647) (he0 : 0 ≤ e) (he1 : e ≤ 9223372036854775807) : Ev (fun k => codewrightref03_power.f k a e n) (a ^ e.toNat % n) := by
  unfold codewrightref03_power.f
  refine ev_let (Mod_some a hn hn2) (ev_let (Mod_some 1 hn hn2) ?_)
  have := rpower_l0 hn hn2 e.toNat (a % n) e (1 % n) (Nat.le_refl _) he0 he1 (Int.emod_nonneg _ (by omega)) (Int.emod_lt_of_pos _ (by omega)) (one_mod n hn).1 (one_mod n hn).2
  refine ev_eq this ?_
  rw [Int.mul_emod, Int.emod_emod_of_dvd _ (Int.dvd_refl n), ← Int.mul_emod, Int.one_mul, emod_self_pow]

theorem Power_ev {e n : Int} (a : Int) (hn : 1 ≤ n) (hn2 : n ≤ 2147483647) (he0 : 0 ≤ e) (he1 : e ≤ 9223372036854775807) : Ev (fun k => number_Power.f k a e n) (a ^ e.toNat % n, 0) := by
  unfold number_Power.f
  refine ev_let (in_yes hn hn2) (ev_yes rfl ?_)
  rw [decide_eq_false (by omega)]
  refine Ev.step (fun k => number_Power.j0.eq_2 ..) (ev_no (by simp) (ev_let (mod_some a hn hn2) (Ev.bind (power_ev hn hn2 (Int.emod_nonneg _ (by omega)) (Int.emod_lt_of_pos _ (by omega)) he0 he1) ?_)))
  rw [emod_self_pow]
  exact Ev.now _
theorem Power_out {e n : Int} (a : Int) (h : n < 1 ∨ 2147483647 < n ∨ e < 0) : Ev (fun k => number_Power.f k a e n) (0, 6) := by
  unfold number_Power.f
  by_cases hn : 1 ≤ n ∧ n ≤ 2147483647
  · refine ev_let (in_yes hn.1 hn.2) (ev_yes rfl ?_)
    rw [decide_eq_true (by omega)]
    exact Ev.step (fun k => number_Power.j0.eq_2 ..) (ev_yes rfl (Ev.now _))
  · refine ev_let (in1_no (by omega)) (ev_no (by simp) ?_)
    exact Ev.step (fun k => number_Power.j0.eq_2 ..) (ev_yes rfl (Ev.now _))
theorem rPower_ev {e n : Int} (a : Int) (hn : 1 ≤ n) (hn2 : n ≤ 2147483647) (he0 : 0 ≤ e) (he1 : e ≤ 9223372036854775807) : Ev (fun k => codewrightref03_Power.f k a e n) (a ^ e.toNat % n, 0) := by
  unfold codewrightref03_Power.f
  exact ev_let (rin_yes hn hn2) (ev_yes rfl (ev_no (by omega) (Ev.bind (rpower_ev a hn hn2 he0 he1) (Ev.now _))))
theorem rPower_out {e n : Int} (a : Int) (h : n < 1 ∨ 2147483647 < n ∨ e < 0) : Ev (fun k => codewrightref03_Power.f k a e n) (0, 6) := by
  unfold codewrightref03_Power.f
  by_cases hn : 1 ≤ n ∧ n ≤ 2147483647
  · exact ev_let (rin_yes hn.1 hn.2) (ev_yes rfl (ev_yes (by omega) (Ev.now _)))
  · exact ev_let (rin_no (by omega)) (ev_no (by simp) (Ev.now _))

/-! ### gcd -/
theorem gcd_l0 : ∀ (m a b : Nat), b ≤ m → Ev (fun k => number_gcd.l0 k (a : Int) (b : Int)) ((Nat.gcd a b : Nat) : Int) := by
  intro m
  induction m with
  | zero =>
    intro a b h
    obtain rfl : b = 0 := by omega
    refine Ev.step (fun k => number_gcd.l0.eq_2 ..) (ev_yes rfl ?_)
    rw [Nat.gcd_zero_right]; exact Ev.now _
  | succ m ih =>
    intro a b h
    by_cases h0 : b = 0
    · subst h0
      refine Ev.step (fun k => number_gcd.l0.eq_2 ..) (ev_yes rfl ?_)
      rw [Nat.gcd_zero_right]; exact Ev.now _
    · refine Ev.step (fun k => number_gcd.l0.eq_2 ..) (ev_no (by omega) ?_)
      rw [nat_tmod]
      have hlt := Nat.mod_lt a (show b > 0 by omega)
      refine ev_eq (ih b (a % b) (by omega)) ?_
      rw [Nat.gcd_comm b, ← Nat.gcd_rec, Nat.gcd_comm]
theorem gcd_ev (a b : Nat) : Ev (fun k => number_gcd.f k (a : Int) (b : Int)) ((Nat.gcd a b : Nat) : Int) := gcd_l0 b a b (Nat.le_refl _)
theorem rgcd_l0 : ∀ (m a b : Nat), b ≤ m → Ev (fun k => codewrightref03_gcd.l0 k (a : Int) (b : Int)) ((Nat.gcd a b : Nat) : Int) := by
  intro m
  induction m with
  | zero =>
    intro a b h
    obtain rfl : b = 0 := by omega
    refine Ev.step (fun k => codewrightref03_gcd.l0.eq_2 ..) (ev_yes rfl ?_)
    rw [Nat.gcd_zero_right]; exact Ev.now _
  | succ m ih =>
    intro a b h
    by_cases h0 : b = 0
    · subst h0
      refine Ev.step (fun k => codewrightref03_gcd.l0.eq_2 ..) (ev_yes rfl ?_)
      rw [Nat.gcd_zero_right]; exact Ev.now _
    · refine Ev.step (fun k => codewrightref03_gcd.l0.eq_2 ..) (ev_no (by omega) ?_)
      rw [nat_tmod]
      have hlt := Nat.mod_lt a (show b > 0 by omega)
      refine ev_eq (ih b (a % b) (by omega)) ?_
      rw [Nat.gcd_comm b, ← Nat.gcd_rec, Nat.gcd_comm]
theorem rgcd_ev (a b : Nat) : Ev (fun k => codewrightref03_gcd.f k (a : Int) (b : Int)) ((Nat.gcd a b : Nat) : Int) := rgcd_l0 b a b (Nat.le_refl _)
end Go.Proofs.Ytnppfagghpjkpaa.Num
