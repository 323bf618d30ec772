/- Plain number theory: primes. No program. -/
import Derived.Test.YtnppfagghpjkpaaT2
namespace Go.Proofs.Ytnppfagghpjkpaa.Num

theorem pr_dvd {p d : Nat} (hp : Pr p) (h : d ∣ p) : d = 1 ∨ d = p := by
  have h2 := hp.two
  have hle := Nat.le_of_dvd (by omega) h
  rcases Nat.lt_or_ge d 2 with h1 | h1
  · rcases Nat.eq_zero_or_pos d with h0 | h0
    · subst h0; have := Nat.eq_zero_of_zero_dvd h; omega
    · left; omega
  · right
    rcases Nat.lt_or_ge d p with h3 | h3
    · exact absurd (Nat.mod_eq_zero_of_dvd h) (hp.least d h1 h3)
    · omega
theorem pr_coprime {p a : Nat} (hp : Pr p) (h : ¬ p ∣ a) : Nat.Coprime p a := by
  rcases pr_dvd hp (Nat.gcd_dvd_left p a) with h1 | h1
  · exact h1
  · exact absurd (h1 ▸ Nat.gcd_dvd_right p a) h
theorem pr_dvd_mul {p a b : Nat} (hp : Pr p) (h : p ∣ a * b) : p ∣ a ∨ p ∣ b := by
  by_cases ha : p ∣ a
  · exact .inl ha
  · exact .inr ((pr_coprime hp ha).dvd_of_dvd_mul_left h)
theorem pr_dvd_pow {p a : Nat} (hp : Pr p) : ∀ m, p ∣ a ^ m → p ∣ a := by
  intro m
  induction m with
  | zero => intro h; simp at h; have := hp.two; omega
  | succ m ih =>
    intro h
    rw [Nat.pow_succ] at h
    exact (pr_dvd_mul hp h).elim ih id
/-- Some prime divides each number from 2 on. -/
theorem exists_pr {n : Nat} (h : 2 ≤ n) : ∃ p, Pr p ∧ p ∣ n := ⟨ldiv n, ldiv_prime h, Nat.dvd_of_mod_eq_zero (ldiv_least h).dvd⟩
end Go.Proofs.Ytnppfagghpjkpaa.Num
