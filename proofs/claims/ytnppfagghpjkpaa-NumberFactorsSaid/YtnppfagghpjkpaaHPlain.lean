/- Plain facts on the least divisor of a number. -/
import Init
namespace Go.Proofs.Ytnppfagghpjkpaa.Num

/-- Search for the least divisor from d on. -/
def lfrom (n : Nat) : Nat → Nat → Nat
  | 0, _ => n
  | f + 1, d => if n < d * d then n else if n % d = 0 then d else lfrom n f (d + 1)
/-- The least divisor that is at least 2. -/
def ldiv (n : Nat) : Nat := lfrom n n 2

/-- r is the least divisor of n that is at least 2. -/
structure IsLeast (n r : Nat) : Prop where
  two : 2 ≤ r
  dvd : n % r = 0
  least : ∀ e, 2 ≤ e → e < r → n % e ≠ 0

theorem IsLeast.unique {n r s : Nat} (h : IsLeast n r) (k : IsLeast n s) : r = s := by
  rcases Nat.lt_trichotomy r s with h1 | h1 | h1
  · exact absurd h.dvd (k.least r h.two h1)
  · exact h1
  · exact absurd k.dvd (h.least s k.two h1)

theorem least_self {n d : Nat} (hn : 2 ≤ n) (hd : n < d * d) (h : ∀ e, 2 ≤ e → e < d → n % e ≠ 0) : IsLeast n n := by
  refine ⟨hn, Nat.mod_self n, fun e h2 hlt he => ?_⟩
  obtain ⟨q, hq⟩ := Nat.dvd_of_mod_eq_zero he
  have hed : d ≤ e := Nat.le_of_not_lt fun hc => h e h2 hc he
  have hq2 : 2 ≤ q := by
    rcases q with _ | _ | q
    · simp at hq; omega
    · simp at hq; omega
    · omega
  have hqd : d ≤ q := Nat.le_of_not_lt fun hc => h q hq2 hc (by rw [hq]; exact Nat.mul_mod_left e q)
  have : d * d ≤ e * q := Nat.mul_le_mul hed hqd
  omega

theorem lfrom_least {n : Nat} (hn : 2 ≤ n) : ∀ (f d : Nat), 2 ≤ d → n < d + f → (∀ e, 2 ≤ e → e < d → n % e ≠ 0) → IsLeast n (lfrom n f d) := by
  intro f
  induction f with
  | zero => intro d _ hf h; exact absurd (Nat.mod_self n) (h n hn (by omega))
  | succ f ih =>
    intro d hd hf h
    unfold lfrom
    split
    · rename_i hlt; exact least_self hn hlt h
    · split
      · rename_i h0; exact ⟨hd, h0, h⟩
      · rename_i h0
        refine ih (d + 1) (by omega) (by omega) fun e h2 hlt => ?_
        rcases Nat.lt_or_ge e d with h1 | h1
        · exact h e h2 h1
        · obtain rfl : e = d := by omega
          exact h0

theorem ldiv_least {n : Nat} (hn : 2 ≤ n) : IsLeast n (ldiv n) :=
  lfrom_least hn n 2 (Nat.le_refl _) (by omega) (fun e h2 hlt => by omega)

theorem ldiv_eq {n r : Nat} (hn : 2 ≤ n) (h : IsLeast n r) : ldiv n = r := (ldiv_least hn).unique h

theorem ldiv_le {n : Nat} (hn : 2 ≤ n) : ldiv n ≤ n := Nat.le_of_dvd (by omega) (Nat.dvd_of_mod_eq_zero (ldiv_least hn).dvd)

/-! The wheel: the numbers from 1 to 30 that 2, 3 and 5 do not divide; behind the last the first of the next turn. -/
def wh : Nat → Nat
  | 0 => 1 | 1 => 7 | 2 => 11 | 3 => 13 | 4 => 17 | 5 => 19 | 6 => 23 | 7 => 29 | _ => 31

/-- No number from 2 on and below d divides n. -/
def NoDiv (n d : Nat) : Prop := ∀ e, 2 ≤ e → e < d → n % e ≠ 0

theorem mod_trans {n e p : Nat} (h : n % e = 0) (hp : e % p = 0) : n % p = 0 := by
  obtain ⟨a, rfl⟩ := Nat.dvd_of_mod_eq_zero h
  obtain ⟨b, rfl⟩ := Nat.dvd_of_mod_eq_zero hp
  rw [Nat.mul_assoc]
  exact Nat.mul_mod_right p _

theorem wheel_all : ∀ c, c < 32 → c % 2 ≠ 0 → c % 3 ≠ 0 → c % 5 ≠ 0 → c = 1 ∨ c = 7 ∨ c = 11 ∨ c = 13 ∨ c = 17 ∨ c = 19 ∨ c = 23 ∨ c = 29 ∨ c = 31 := by
  intro c h k2 k3 k5
  have k := (by decide : ∀ c : Fin 32, c.val % 2 = 0 ∨ c.val % 3 = 0 ∨ c.val % 5 = 0 ∨ c.val ∈ [1, 7, 11, 13, 17, 19, 23, 29, 31]) ⟨c, h⟩
  simp only [List.mem_cons, List.not_mem_nil, or_false] at k
  rcases k with k | k | k | k
  · exact absurd k k2
  · exact absurd k k3
  · exact absurd k k5
  · exact k
/-- From one place of the wheel to the next. -/
theorem wheel_step {n m j : Nat} (h2 : n % 2 ≠ 0) (h3 : n % 3 ≠ 0) (h5 : n % 5 ≠ 0) (hj : j < 8) (h : NoDiv n (30 * m + wh j)) (hd : 30 * m + wh j = 1 ∨ n % (30 * m + wh j) ≠ 0) : NoDiv n (30 * m + wh (j + 1)) := by
  intro e he hlt he0
  have k2 : e % 2 ≠ 0 := fun hc => h2 (mod_trans he0 hc)
  have k3 : e % 3 ≠ 0 := fun hc => h3 (mod_trans he0 hc)
  have k5 : e % 5 ≠ 0 := fun hc => h5 (mod_trans he0 hc)
  rcases Nat.lt_or_ge e (30 * m + wh j) with h1 | h1
  · exact h e he h1 he0
  · have hne : e ≠ 30 * m + wh j := by
      rintro rfl
      rcases hd with hd | hd
      · omega
      · exact hd he0
    have hj8 : j = 0 ∨ j = 1 ∨ j = 2 ∨ j = 3 ∨ j = 4 ∨ j = 5 ∨ j = 6 ∨ j = 7 := by omega
    clear he0 h hd h2 h3 h5 hj
    have hw1 : wh (j + 1) ≤ 31 := by rcases hj8 with rfl | rfl | rfl | rfl | rfl | rfl | rfl | rfl <;> simp [wh]
    obtain ⟨c, rfl⟩ : ∃ c, e = 30 * m + c := ⟨e - 30 * m, by omega⟩
    have hc := wheel_all c (by omega) (by omega) (by omega) (by omega)
    rcases hj8 with rfl | rfl | rfl | rfl | rfl | rfl | rfl | rfl <;> simp only [wh] at h1 hlt hne <;> omega

theorem noDiv_start (n : Nat) : NoDiv n (30 * 0 + wh 0) := fun e he hlt => by simp [wh] at hlt; omega
theorem noDiv_turn {n m : Nat} (h : NoDiv n (30 * m + wh 8)) : NoDiv n (30 * (m + 1) + wh 0) := by
  have : 30 * (m + 1) + wh 0 = 30 * m + wh 8 := by simp only [wh]; omega
  rw [this]; exact h
end Go.Proofs.Ytnppfagghpjkpaa.Num
