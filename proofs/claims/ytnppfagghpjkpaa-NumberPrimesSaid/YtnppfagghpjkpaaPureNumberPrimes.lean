/- A prime has no divisor other than 1 and itself, and divides a product only if it divides a factor: for all ints, the statement answers true. -/
import Derived.Test.YtnppfagghpjkpaaE1
import Derived.Test.YtnppfagghpjkpaaT3
import Derived.Test.YtnppfagghpjkpaaNumx8
namespace Go.Proofs.Ytnppfagghpjkpaa.Pure
set_option linter.unusedVariables false
open Go.RowKit Go.Proofs.Ytnppfagghpjkpaa.Num Go.Proofs.YtnppfagghpjkpaaW.PrintWords Go.Proofs.YtnppfagghpjkpaaW.PrintLast

theorem composite_ev {n : Nat} (hn : 2 ≤ n) (h2 : n ≤ 2147483647) (h : ldiv n ≠ n) : ∀ (m d : Nat), 2 ≤ d → d + m = ldiv n → Ev (fun k => codewrightlaw03_composite.l0 k (n : Int) (d : Int)) true := by
  have hl := ldiv_least hn
  have hle : ldiv n * ldiv n ≤ n := by
    obtain ⟨q, hq⟩ := Nat.dvd_of_mod_eq_zero hl.dvd
    have hq2 : 2 ≤ q := by
      rcases q with _ | _ | q
      · simp at hq; omega
      · simp at hq; omega
      · omega
    have : ldiv n ≤ q := Nat.le_of_not_lt fun hc => hl.least q hq2 hc (by rw [hq]; exact Nat.mul_mod_left _ q)
    have := Nat.mul_le_mul_left (ldiv n) this
    omega
  intro m
  induction m with
  | zero =>
    intro d hd he
    obtain rfl : d = ldiv n := by omega
    refine Ev.step (fun k => codewrightlaw03_composite.l0.eq_2 ..) ?_
    refine ev_no (by omega) (ev_yes ?_ (ev_yes ?_ (Ev.now _)))
    · have hqv : n / ldiv n ≤ n := Nat.div_le_self _ _
      rw [nat_tdiv, w64n (by omega)]
      have := (Nat.le_div_iff_mul_le (show 0 < ldiv n by omega)).2 hle
      exact_mod_cast this
    · rw [nat_tmod, hl.dvd]; rfl
  | succ m ih =>
    intro d hd he
    have hdl : d * d ≤ ldiv n * ldiv n := Nat.mul_le_mul (by omega) (by omega)
    have hln := ldiv_le hn
    refine Ev.step (fun k => codewrightlaw03_composite.l0.eq_2 ..) ?_
    refine ev_no (by omega) (ev_yes ?_ (ev_no ?_ ?_))
    · have hqv : n / d ≤ n := Nat.div_le_self _ _
      rw [nat_tdiv, w64n (by omega)]
      have := (Nat.le_div_iff_mul_le (show 0 < d by omega)).2 (Nat.le_trans hdl hle)
      exact_mod_cast this
    · rw [nat_tmod]
      have := hl.least d hd (by omega)
      omega
    · rw [w64 (by omega) (by omega)]
      exact ih (d + 1) (by omega) (by omega)

theorem product_case {n : Nat} (hp : Pr n) (h2 : n ≤ 2147483647) (a b : Int) :
    (if (n : Int) = 0 then none else (if (Int.tmod (wrap64 ((Int.tmod a n) * (Int.tmod b n))) n) = 0 then (if (Int.tmod a n) = 0 then (some true) else (some ((Int.tmod b n) == 0))) else (some true))) = some true := by
  have hn := hp.two
  rw [if_neg (by omega)]
  have a1 := Int.tmod_lt_of_pos a (show (0 : Int) < n by omega)
  have a2 := Int.lt_tmod_of_pos a (show (0 : Int) < n by omega)
  have b1 := Int.tmod_lt_of_pos b (show (0 : Int) < n by omega)
  have b2 := Int.lt_tmod_of_pos b (show (0 : Int) < n by omega)
  generalize a.tmod n = x at a1 a2
  generalize b.tmod n = y at b1 b2
  have hx : x.natAbs < n := by omega
  have hy : y.natAbs < n := by omega
  have hxy : (x * y).natAbs ≤ 2147483646 * 2147483646 := by rw [Int.natAbs_mul]; exact Nat.mul_le_mul (by omega) (by omega)
  rw [w64 (by omega) (by omega)]
  split
  · rename_i h
    have hd : n ∣ x.natAbs * y.natAbs := by
      have := Int.dvd_of_tmod_eq_zero h
      rw [← Int.natAbs_dvd_natAbs, Int.natAbs_mul] at this
      simpa using this
    split
    · rfl
    · rename_i hx0
      have : y.natAbs = 0 := by
        rcases pr_dvd_mul hp hd with h | h
        · have := Nat.le_of_dvd (by omega) h; omega
        · rcases Nat.eq_zero_or_pos y.natAbs with h0 | h0
          · exact h0
          · have := Nat.le_of_dvd h0 h; omega
      have : y = 0 := by omega
      rw [this]; rfl
  · rfl

theorem NumberPrimes : codewrightlaw03_NumberPrimes.Pure := by
  intro a0 a1 a2 ha0 ha1 ha2
  apply Ev.rounds
  unfold codewrightlaw03_NumberPrimes.f
  refine ev_let rfl (ev_yes rfl ?_)
  by_cases h0 : a0 < 2
  · refine ev_let (prime_out (.inl h0)) (ev_no (by simp) (ev_yes h0 (Ev.now _)))
  by_cases h1 : 2147483647 < a0
  · refine ev_let (prime_out (.inr h1)) (ev_no (by simp) (ev_no h0 (ev_yes h1 (Ev.now _))))
  obtain ⟨n, rfl⟩ := Int.eq_ofNat_of_zero_le (show 0 ≤ a0 by omega)
  have hn : 2 ≤ n := by omega
  have hn2 : n ≤ 2147483647 := by omega
  refine ev_let (prime_in hn hn2) ?_
  by_cases hp : ldiv n = n
  · refine ev_yes (by simpa using hp) (ev_no h0 ?_)
    rw [decide_eq_false h1]
    refine Ev.step (fun k => codewrightlaw03_NumberPrimes.j0.eq_2 ..) (ev_no (by simp) ?_)
    have hpr := pr_of_ldiv hn hp
    have hf := ev_const (product_case hpr hn2 a1 a2)
    by_cases h3 : a1 > 1
    · refine ev_yes h3 ?_
      by_cases h4 : a1 < n
      · refine ev_yes h4 (ev_no (by omega) (ev_no ?_ hf))
        obtain ⟨d, rfl⟩ := Int.eq_ofNat_of_zero_le (show 0 ≤ a1 by omega)
        rw [nat_tmod]
        have := hpr.least d (by omega) (by omega)
        omega
      · exact ev_no h4 hf
    · exact ev_no h3 hf
  · refine ev_no (by simpa using hp) (ev_no h0 (ev_no (by omega) ?_))
    have hl := ldiv_least hn
    exact Ev.bind (composite_ev hn hn2 hp (ldiv n - 2) 2 (by omega) (by have := hl.two; omega)) (Ev.now _)
end Go.Proofs.Ytnppfagghpjkpaa.Pure
