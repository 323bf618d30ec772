/- What number.Factor and number.Prime answer. -/
import Derived.Test.YtnppfagghpjkpaaE0
import Derived.Test.YtnppfagghpjkpaaT1
import Derived.Test.YtnppfagghpjkpaaT2
import Derived.Test.YtnppfagghpjkpaaNumx2
namespace Go.Proofs.Ytnppfagghpjkpaa.Num
open Go.RowKit Go.Proofs.YtnppfagghpjkpaaW.PrintWords

def toS (x : Nat × Nat) : S29 := ⟨(x.1 : Int), (x.2 : Int)⟩

theorem in_yes {a b : Int} (h : b ≤ a) (h2 : a ≤ 2147483647) : number_in.f a b = some true := by
  unfold number_in.f; rw [if_pos h]; simp [h2]
theorem in_low {a b : Int} (h : a < b) : number_in.f a b = some false := by
  unfold number_in.f; rw [if_neg (by omega)]
theorem in_high {a b : Int} (h : 2147483647 < a) : number_in.f a b = some false := by
  unfold number_in.f
  split
  · rw [decide_eq_false (by omega)]
  · rfl
theorem least_some {n : Nat} (h : 2 ≤ n) (h2 : n ≤ 2147483647) : number_least.f (n : Int) = some ((ldiv n : Nat) : Int) := by
  unfold number_least.f; rw [if_pos ⟨by omega, by omega⟩]; rfl

theorem nat_tmod (a b : Nat) : Int.tmod (a : Int) (b : Int) = ((a % b : Nat) : Int) := rfl
theorem nat_tdiv (a b : Nat) : Int.tdiv (a : Int) (b : Int) = ((a / b : Nat) : Int) := rfl

/-- The inner loop of Factor. -/
theorem factor_l1 {R : List S29 × Int} {p : Nat} (hp : 2 ≤ p) : ∀ (f n e : Nat) (acc : List S29), 1 ≤ n → n ≤ f → n ≤ 2147483647 → e + n ≤ 4294967296 → acc.length < 8796093022208 →
    Ev (fun k => number_Factor.l0 k ((rest p f n : Nat) : Int) (acc ++ [toS (p, e + mult p f n)])) R →
    Ev (fun k => number_Factor.l1 k (n : Int) acc (p : Int) (p : Int) (e : Int)) R := by
  intro f
  induction f with
  | zero => intro n e acc h1 h2; omega
  | succ f ih =>
    intro n e acc h1 h2 h3 h4 h5 H
    refine Ev.step (fun k => number_Factor.l1.eq_2 ..) ?_
    refine ev_no (by omega) ?_
    unfold rest mult at H
    by_cases h : n % p = 0
    · refine ev_yes (by rw [nat_tmod, h]; rfl) ?_
      rw [if_pos h, if_pos h] at H
      have hlt := div_lt_self h1 hp
      have hpos : 1 ≤ n / p := Nat.div_pos (Nat.le_of_dvd h1 (Nat.dvd_of_mod_eq_zero h)) (by omega)
      rw [nat_tdiv, w64 (by omega) (by omega), w64 (by omega) (by omega)]
      have := ih (n / p) (e + 1) acc hpos (by omega) (by omega) (by omega) h5 (by
        rw [show e + 1 + mult p f (n / p) = e + (mult p f (n / p) + 1) by omega]; exact H)
      exact this
    · refine ev_no (by rw [nat_tmod]; omega) ?_
      refine ev_yes h5 ?_
      rw [if_neg h, if_neg h] at H
      exact H

theorem rest_lt {n : Nat} (hn : 2 ≤ n) : 1 ≤ rest (ldiv n) n n ∧ rest (ldiv n) n n < n := by
  have hl := ldiv_least hn
  obtain ⟨k1, k2, k3, k4⟩ := rest_mult hl.two n n (by omega) (Nat.le_refl _)
  refine ⟨k3, ?_⟩
  rcases Nat.lt_or_ge (rest (ldiv n) n n) n with h | h
  · exact h
  · have e : rest (ldiv n) n n = n := by omega
    rw [e] at k2; exact absurd hl.dvd k2

theorem factor_l0 : ∀ (f n : Nat) (acc : List S29), 1 ≤ n → n ≤ f → n ≤ 2147483647 → acc.length + n ≤ 4294967296 →
    Ev (fun k => number_Factor.l0 k (n : Int) acc) (acc ++ (facs f n).map toS, 0) := by
  intro f
  induction f with
  | zero => intro n acc h1 h2; omega
  | succ f ih =>
    intro n acc h1 h2 h3 h4
    refine Ev.step (fun k => number_Factor.l0.eq_2 ..) ?_
    unfold facs
    by_cases h : n ≤ 1
    · rw [if_pos h]
      refine ev_no (by omega) ?_
      simp only [List.map_nil, List.append_nil]
      exact Ev.now _
    · rw [if_neg h]
      have hn : 2 ≤ n := by omega
      obtain ⟨k1, k2⟩ := rest_lt hn
      refine ev_yes (by omega) (ev_let (least_some hn h3) ?_)
      have := factor_l1 (R := (acc ++ ((ldiv n, mult (ldiv n) n n) :: facs f (rest (ldiv n) n n)).map toS, 0)) (ldiv_least hn).two n n 0 acc h1 (Nat.le_refl _) h3 (by omega) (by omega) (by
        have h6 := ih (rest (ldiv n) n n) (acc ++ [toS (ldiv n, 0 + mult (ldiv n) n n)]) k1 (by omega) (by omega) (by simp; omega)
        refine ev_eq h6 ?_
        simp)
      exact this

/-- number.Factor on a number in range. -/
theorem factor_ev {n : Nat} (h1 : 1 ≤ n) (h2 : n ≤ 2147483647) : Ev (fun k => number_Factor.f k (n : Int)) ((facl n).map toS, 0) := by
  unfold number_Factor.f
  refine ev_let (in_yes (by omega) (by omega)) (ev_yes rfl ?_)
  have := factor_l0 n n [] h1 (Nat.le_refl _) h2 (by simp; omega)
  simpa [facl] using this
theorem factor_out {a : Int} (h : a < 1 ∨ 2147483647 < a) : Ev (fun k => number_Factor.f k a) ([], 6) := by
  unfold number_Factor.f
  have : number_in.f a 1 = some false := by rcases h with h | h; exact in_low h; exact in_high h
  exact ev_let this (ev_no (by simp) (Ev.now _))

theorem prime_in {n : Nat} (h1 : 2 ≤ n) (h2 : n ≤ 2147483647) : number_Prime.f (n : Int) = some (decide (ldiv n = n)) := by
  unfold number_Prime.f
  rw [in_yes (by omega) (by omega)]
  simp only [Option.bind_some, if_true]
  rw [least_some h1 h2]
  simp only [Option.bind_some]
  congr 1
  rw [Bool.eq_iff_iff]; simp; omega
theorem prime_out {a : Int} (h : a < 2 ∨ 2147483647 < a) : number_Prime.f a = some false := by
  unfold number_Prime.f
  have : number_in.f a 2 = some false := by rcases h with h | h; exact in_low h; exact in_high h
  rw [this]; rfl
theorem pr_ldiv {p : Nat} (h : Pr p) : ldiv p = p := ldiv_eq h.two h
theorem prime_of_pr {p : Nat} (h : Pr p) (h2 : p ≤ 2147483647) : number_Prime.f (p : Int) = some true := by
  rw [prime_in h.two h2, pr_ldiv h]; simp
theorem pr_of_ldiv {p : Nat} (h1 : 2 ≤ p) (h : ldiv p = p) : Pr p := by
  have := ldiv_least h1
  rwa [h] at this
end Go.Proofs.Ytnppfagghpjkpaa.Num
