/- Plain number theory: prime powers of a number. No program. -/
import Derived.Test.YtnppfagghpjkpaaHPlain
namespace Go.Proofs.Ytnppfagghpjkpaa.Num

/-- How often p divides n, and what is left then. -/
def mult (p : Nat) : Nat → Nat → Nat
  | 0, _ => 0
  | f + 1, n => if n % p = 0 then mult p f (n / p) + 1 else 0
def rest (p : Nat) : Nat → Nat → Nat
  | 0, n => n
  | f + 1, n => if n % p = 0 then rest p f (n / p) else n

/-- The prime powers of n. -/
def facs : Nat → Nat → List (Nat × Nat)
  | 0, _ => []
  | f + 1, n => if n ≤ 1 then [] else (ldiv n, mult (ldiv n) n n) :: facs f (rest (ldiv n) n n)
def facl (n : Nat) : List (Nat × Nat) := facs n n

def Pr (p : Nat) : Prop := IsLeast p p

theorem ldiv_prime {n : Nat} (hn : 2 ≤ n) : Pr (ldiv n) := by
  have h := ldiv_least hn
  exact ⟨h.two, Nat.mod_self _, fun e h2 hlt he => h.least e h2 hlt (mod_trans h.dvd he)⟩

theorem div_lt_self {n p : Nat} (hn : 1 ≤ n) (hp : 2 ≤ p) : n / p < n := Nat.div_lt_self hn hp

theorem rest_mult {p : Nat} (hp : 2 ≤ p) : ∀ (f n : Nat), 1 ≤ n → n ≤ f → n = p ^ mult p f n * rest p f n ∧ rest p f n % p ≠ 0 ∧ 1 ≤ rest p f n ∧ rest p f n ≤ n := by
  intro f
  induction f with
  | zero => intro n h1 h2; omega
  | succ f ih =>
    intro n h1 h2
    unfold mult rest
    by_cases h : n % p = 0
    · rw [if_pos h, if_pos h]
      have hlt := div_lt_self h1 hp
      have hpos : 1 ≤ n / p := Nat.div_pos (Nat.le_of_dvd h1 (Nat.dvd_of_mod_eq_zero h)) (by omega)
      obtain ⟨k1, k2, k3, k4⟩ := ih (n / p) hpos (by omega)
      refine ⟨?_, k2, k3, by omega⟩
      have e : n = p * (n / p) := by rw [Nat.mul_div_cancel' (Nat.dvd_of_mod_eq_zero h)]
      rw [Nat.pow_succ, Nat.mul_comm _ p, Nat.mul_assoc, ← k1]
      exact e
    · rw [if_neg h, if_neg h]
      exact ⟨by simp, h, h1, Nat.le_refl _⟩
theorem mult_pos {p f n : Nat} (hf : f ≠ 0) (h : n % p = 0) : 1 ≤ mult p f n := by
  obtain ⟨g, rfl⟩ : ∃ g, f = g + 1 := ⟨f - 1, by omega⟩
  unfold mult
  rw [if_pos h]; omega

def fprod : List (Nat × Nat) → Nat
  | [] => 1
  | x :: l => x.1 ^ x.2 * fprod l

structure IsFac (n : Nat) (l : List (Nat × Nat)) : Prop where
  prod : fprod l = n
  prime : ∀ x ∈ l, Pr x.1 ∧ 1 ≤ x.2
  asc : l.Pairwise (fun x y => x.1 < y.1)

theorem dvd_fprod {l : List (Nat × Nat)} {x : Nat × Nat} (hx : x ∈ l) : x.1 ^ x.2 ∣ fprod l := by
  induction l with
  | nil => simp at hx
  | cons y l ih =>
    simp only [fprod]
    rcases List.mem_cons.1 hx with rfl | h
    · exact Nat.dvd_mul_right _ _
    · exact Nat.dvd_trans (ih h) (Nat.dvd_mul_left _ _)
theorem dvd_pow_pos (p : Nat) {m : Nat} (h : 1 ≤ m) : p ∣ p ^ m := by
  obtain ⟨k, rfl⟩ : ∃ k, m = k + 1 := ⟨m - 1, by omega⟩
  rw [Nat.pow_succ]; exact Nat.dvd_mul_left _ _
theorem base_dvd_fprod {l : List (Nat × Nat)} {x : Nat × Nat} (hx : x ∈ l) (h1 : 1 ≤ x.2) : x.1 ∣ fprod l :=
  Nat.dvd_trans (dvd_pow_pos _ h1) (dvd_fprod hx)

theorem facs_fac : ∀ (f n : Nat), 1 ≤ n → n ≤ f → IsFac n (facs f n) := by
  intro f
  induction f with
  | zero => intro n h1 h2; omega
  | succ f ih =>
    intro n h1 h2
    unfold facs
    split
    · obtain rfl : n = 1 := by omega
      exact ⟨rfl, by simp, by simp⟩
    · have hn : 2 ≤ n := by omega
      have hl := ldiv_least hn
      obtain ⟨k1, k2, k3, k4⟩ := rest_mult hl.two n n h1 (Nat.le_refl _)
      have hm := mult_pos (p := ldiv n) (f := n) (n := n) (by omega) hl.dvd
      have hlt : rest (ldiv n) n n < n := by
        rcases Nat.lt_or_ge (rest (ldiv n) n n) n with h | h
        · exact h
        · have e : rest (ldiv n) n n = n := by omega
          rw [e] at k2; exact absurd hl.dvd k2
      have I := ih _ k3 (by omega)
      refine ⟨by simp only [fprod]; rw [I.prod]; exact k1.symm, ?_, ?_⟩
      · intro x hx
        rcases List.mem_cons.1 hx with rfl | h
        · exact ⟨ldiv_prime hn, hm⟩
        · exact I.prime x h
      · refine List.pairwise_cons.2 ⟨fun x hx => ?_, I.asc⟩
        have hp := I.prime x hx
        have hd : x.1 ∣ rest (ldiv n) n n := by
          have := base_dvd_fprod hx hp.2
          rwa [I.prod] at this
        have hdn : n % x.1 = 0 := by
          apply Nat.mod_eq_zero_of_dvd
          rw [k1]
          exact Nat.dvd_trans hd (Nat.dvd_mul_left _ _)
        rcases Nat.lt_trichotomy (ldiv n) x.1 with h | h | h
        · exact h
        · exact absurd (Nat.mod_eq_zero_of_dvd (h ▸ hd)) k2
        · exact absurd hdn (hl.least x.1 hp.1.two h)
theorem facl_fac {n : Nat} (h : 1 ≤ n) : IsFac n (facl n) := facs_fac n n h (Nat.le_refl _)

theorem pow_le_fprod {l : List (Nat × Nat)} (h : ∀ x ∈ l, 2 ≤ x.1 ∧ 1 ≤ x.2) : 2 ^ l.length ≤ fprod l := by
  induction l with
  | nil => simp [fprod]
  | cons x l ih =>
    have h1 := h x (by simp)
    have h2 := ih fun y hy => h y (by simp [hy])
    have h3 : 2 ≤ x.1 ^ x.2 := by
      have : 2 ^ 1 ≤ x.1 ^ x.2 := Nat.le_trans (Nat.pow_le_pow_left h1.1 1) (Nat.pow_le_pow_right (by omega) h1.2)
      simpa using this
    simp only [fprod, List.length_cons, Nat.pow_succ]
    rw [Nat.mul_comm]
    exact Nat.mul_le_mul h3 h2
theorem fprod_pos {l : List (Nat × Nat)} (h : ∀ x ∈ l, 2 ≤ x.1 ∧ 1 ≤ x.2) : 1 ≤ fprod l := Nat.le_trans (Nat.one_le_two_pow) (pow_le_fprod h)
theorem IsFac.len {n : Nat} {l : List (Nat × Nat)} (h : IsFac n l) (hn : n ≤ 2147483647) : l.length ≤ 30 := by
  have k := pow_le_fprod (l := l) fun x hx => ⟨(h.prime x hx).1.two, (h.prime x hx).2⟩
  rw [h.prod] at k
  rcases Nat.lt_or_ge 30 l.length with h1 | h1
  · have : 2 ^ 31 ≤ 2 ^ l.length := Nat.pow_le_pow_right (by omega) h1
    omega
  · exact h1
theorem IsFac.le {n : Nat} {l : List (Nat × Nat)} (h : IsFac n l) (x : Nat × Nat) (hx : x ∈ l) (hn : 1 ≤ n) : x.1 ^ x.2 ≤ n ∧ 2 ^ x.2 ≤ n ∧ x.1 ≤ n := by
  have k := dvd_fprod hx
  rw [h.prod] at k
  have k1 := Nat.le_of_dvd hn k
  have hp := h.prime x hx
  refine ⟨k1, Nat.le_trans (Nat.pow_le_pow_left hp.1.two _) k1, ?_⟩
  have k2 := base_dvd_fprod hx hp.2
  rw [h.prod] at k2
  exact Nat.le_of_dvd hn k2
theorem IsFac.exp_le {n : Nat} {l : List (Nat × Nat)} (h : IsFac n l) (x : Nat × Nat) (hx : x ∈ l) (h1 : 1 ≤ n) (hn : n ≤ 2147483647) : x.2 ≤ 30 := by
  have k := (h.le x hx h1).2.1
  rcases Nat.lt_or_ge 30 x.2 with h1 | h1
  · have : 2 ^ 31 ≤ 2 ^ x.2 := Nat.pow_le_pow_right (by omega) h1
    omega
  · exact h1
end Go.Proofs.Ytnppfagghpjkpaa.Num
