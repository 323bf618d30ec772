/- Plain number theory: binomial coefficients. No program. -/
import Init
namespace Go.Proofs.Ytnppfagghpjkpaa.Num

def ch : Nat → Nat → Nat
  | _, 0 => 1
  | 0, _ + 1 => 0
  | n + 1, k + 1 => ch n k + ch n (k + 1)

theorem ch_zero_right (n : Nat) : ch n 0 = 1 := by cases n <;> rfl
theorem ch_succ (n k : Nat) : ch (n + 1) (k + 1) = ch n k + ch n (k + 1) := rfl
theorem ch_lt : ∀ (n k : Nat), n < k → ch n k = 0 := by
  intro n
  induction n with
  | zero => intro k h; obtain ⟨j, rfl⟩ : ∃ j, k = j + 1 := ⟨k - 1, by omega⟩; rfl
  | succ n ih =>
    intro k h
    obtain ⟨j, rfl⟩ : ∃ j, k = j + 1 := ⟨k - 1, by omega⟩
    rw [ch_succ, ih j (by omega), ih (j + 1) (by omega)]
theorem ch_self : ∀ n, ch n n = 1 := by
  intro n
  induction n with
  | zero => rfl
  | succ n ih => rw [ch_succ, ih, ch_lt n (n + 1) (by omega)]
theorem ch_mul : ∀ (n k : Nat), (k + 1) * ch (n + 1) (k + 1) = (n + 1) * ch n k := by
  intro n
  induction n with
  | zero =>
    intro k
    cases k with
    | zero => rfl
    | succ k => rw [ch_lt 1 (k + 2) (by omega), ch_lt 0 (k + 1) (by omega), Nat.mul_zero, Nat.mul_zero]
  | succ n ih =>
    intro k
    cases k with
    | zero =>
      have := ih 0
      rw [ch_zero_right] at this ⊢
      rw [ch_succ, ch_zero_right]; omega
    | succ j =>
      have h1 := ih (j + 1)
      have h2 := ih j
      rw [ch_succ (n + 1) (j + 1), Nat.mul_add, h1]
      rw [Nat.add_mul (j + 1) 1, h2, Nat.one_mul]
      have h3 : ch (n + 1) (j + 1) = ch n j + ch n (j + 1) := rfl
      have h4 : (n + 1 + 1) * ch (n + 1) (j + 1) = (n + 1) * (ch n j + ch n (j + 1)) + ch (n + 1) (j + 1) := by rw [Nat.add_mul (n + 1) 1, Nat.one_mul, ← h3]
      rw [h4, Nat.mul_add]; omega
theorem ch_symm_add : ∀ (n a b : Nat), a + b = n → ch n a = ch n b := by
  intro n
  induction n with
  | zero => intro a b h; obtain rfl : a = 0 := by omega
            obtain rfl : b = 0 := by omega
            rfl
  | succ n ih =>
    intro a b h
    rcases a with _ | a
    · obtain rfl : b = n + 1 := by omega
      rw [ch_zero_right, ch_self]
    · rcases b with _ | b
      · obtain rfl : a = n := by omega
        rw [ch_zero_right, ch_self]
      · rw [ch_succ, ch_succ, ih a (b + 1) (by omega), ih (a + 1) b (by omega)]; omega
theorem ch_pos : ∀ (n k : Nat), k ≤ n → 1 ≤ ch n k := by
  intro n
  induction n with
  | zero => intro k h; obtain rfl : k = 0 := by omega
            exact Nat.le_refl _
  | succ n ih =>
    intro k h
    cases k with
    | zero => exact Nat.le_refl _
    | succ k => rw [ch_succ]; have := ih k (by omega); omega
theorem ch_diag_le (d i : Nat) : ch (d + i) i ≤ ch (d + (i + 1)) (i + 1) := by rw [← Nat.add_assoc, ch_succ]; omega
theorem ch_diag_mono (d i : Nat) : ∀ m, ch (d + i) i ≤ ch (d + (i + m)) (i + m) := by
  intro m
  induction m with
  | zero => exact Nat.le_refl _
  | succ m ih => exact Nat.le_trans ih (ch_diag_le d (i + m))
theorem ch_diag (d i : Nat) : (i + 1) * ch (d + (i + 1)) (i + 1) = (d + (i + 1)) * ch (d + i) i := ch_mul (d + i) i

/-- The sum of a row, up to a place. -/
def rowSum (n : Nat) : Nat → Nat
  | 0 => 0
  | m + 1 => rowSum n m + ch n m
theorem rowSum_succ (n m : Nat) : rowSum (n + 1) (m + 1) = rowSum n m + rowSum n (m + 1) := by
  induction m with
  | zero => simp [rowSum, ch_zero_right]
  | succ m ih =>
    have e : rowSum (n + 1) (m + 1 + 1) = rowSum (n + 1) (m + 1) + ch (n + 1) (m + 1) := rfl
    have e2 : rowSum n (m + 1 + 1) = rowSum n (m + 1) + ch n (m + 1) := rfl
    have e3 : rowSum n (m + 1) = rowSum n m + ch n m := rfl
    rw [e, ih, e2, ch_succ, e3]; omega
theorem rowSum_eq : ∀ n, rowSum n (n + 1) = 2 ^ n := by
  intro n
  induction n with
  | zero => rfl
  | succ n ih =>
    have e : rowSum n (n + 1 + 1) = rowSum n (n + 1) + ch n (n + 1) := rfl
    rw [rowSum_succ, e, ch_lt n (n + 1) (by omega), ih, Nat.pow_succ]; omega
theorem ch_le_pow : ∀ (n k : Nat), ch n k ≤ 2 ^ n := by
  intro n
  induction n with
  | zero => intro k; cases k <;> simp [ch]
  | succ n ih =>
    intro k
    cases k with
    | zero => rw [ch_zero_right]; exact Nat.one_le_two_pow
    | succ k => rw [ch_succ, Nat.pow_succ]; have := ih k; have := ih (k + 1); omega
end Go.Proofs.Ytnppfagghpjkpaa.Num
