/- Plain number theory: Fermat, Euler. No program. -/
import Derived.Test.YtnppfagghpjkpaaT1
import Derived.Test.YtnppfagghpjkpaaT3
import Derived.Test.YtnppfagghpjkpaaT7
namespace Go.Proofs.Ytnppfagghpjkpaa.Num

/-- The binomial sum, up to a place. -/
def bs (n a : Nat) : Nat → Nat
  | 0 => 0
  | k + 1 => bs n a k + ch n k * a ^ k
theorem bs_succ (n a k : Nat) : bs (n + 1) a (k + 1) = bs n a (k + 1) + a * bs n a k := by
  induction k with
  | zero => simp [bs, ch_zero_right]
  | succ k ih =>
    have e1 : bs (n + 1) a (k + 1 + 1) = bs (n + 1) a (k + 1) + ch (n + 1) (k + 1) * a ^ (k + 1) := rfl
    have e2 : bs n a (k + 1 + 1) = bs n a (k + 1) + ch n (k + 1) * a ^ (k + 1) := rfl
    have e3 : bs n a (k + 1) = bs n a k + ch n k * a ^ k := rfl
    have e4 : a * (ch n k * a ^ k) = ch n k * a ^ (k + 1) := by rw [Nat.pow_succ, Nat.mul_comm a, Nat.mul_assoc]
    rw [e1, ih, e2, ch_succ, e3, Nat.mul_add a, e4, Nat.add_mul]
    omega
theorem bs_eq (a : Nat) : ∀ n, bs n a (n + 1) = (a + 1) ^ n := by
  intro n
  induction n with
  | zero => simp [bs, ch]
  | succ n ih =>
    have e : bs n a (n + 1 + 1) = bs n a (n + 1) + ch n (n + 1) * a ^ (n + 1) := rfl
    rw [bs_succ, e, ch_lt n (n + 1) (by omega), ih, Nat.zero_mul, Nat.pow_succ (a + 1), Nat.mul_add, Nat.mul_comm _ a]
    omega
theorem pr_dvd_ch {p k : Nat} (hp : Pr p) (h1 : 1 ≤ k) (h2 : k < p) : p ∣ ch p k := by
  obtain ⟨j, rfl⟩ : ∃ j, k = j + 1 := ⟨k - 1, by omega⟩
  obtain ⟨q, rfl⟩ : ∃ q, p = q + 1 := ⟨p - 1, by omega⟩
  have h := ch_mul q j
  rcases pr_dvd_mul hp (⟨_, h⟩ : q + 1 ∣ (j + 1) * ch (q + 1) (j + 1)) with h3 | h3
  · have := Nat.le_of_dvd (by omega) h3; omega
  · exact h3
theorem bs_mod {p a : Nat} (hp : Pr p) : ∀ k, 1 ≤ k → k ≤ p → bs p a k % p = 1 % p := by
  intro k
  induction k with
  | zero => intro h; omega
  | succ k ih =>
    intro _ h
    rcases k with _ | k
    · simp [bs, ch_zero_right]
    · have e : bs p a (k + 1 + 1) = bs p a (k + 1) + ch p (k + 1) * a ^ (k + 1) := rfl
      obtain ⟨c, hc⟩ := pr_dvd_ch hp (show 1 ≤ k + 1 by omega) (by omega)
      rw [e, hc, Nat.mul_assoc, Nat.add_mul_mod_self_left]
      exact ih (by omega) (by omega)
theorem fermat_nat {p : Nat} (hp : Pr p) : ∀ a, a ^ p % p = a % p := by
  have h2 := hp.two
  intro a
  induction a with
  | zero => rw [Nat.zero_pow (by omega)]
  | succ a ih =>
    have e : bs p a (p + 1) = bs p a p + ch p p * a ^ p := rfl
    rw [← bs_eq, e, ch_self, Nat.one_mul, Nat.add_mod, bs_mod hp p (by omega) (Nat.le_refl _), ih, ← Nat.add_mod, Nat.add_comm]
/-- Fermat: for whole numbers. -/
theorem fermat {p a : Nat} (hp : Pr p) (ha : ¬ p ∣ a) : p ∣ a ^ (p - 1) - 1 := by
  have h2 := hp.two
  have ha0 : 1 ≤ a := by
    rcases Nat.eq_zero_or_pos a with h | h
    · subst h; exact absurd (Nat.dvd_zero p) ha
    · exact h
  have h := fermat_nat hp a
  have e : a ^ p = a ^ (p - 1) * a := by rw [← Nat.pow_succ]; congr 1; omega
  have hpow : 1 ≤ a ^ (p - 1) := Nat.one_le_pow _ _ ha0
  have h3 : p ∣ a ^ p - a := by
    refine (Nat.dvd_iff_mod_eq_zero ..).2 ?_
    exact Nat.sub_mod_eq_zero_of_mod_eq h
  have e2 : a ^ p - a = a * (a ^ (p - 1) - 1) := by rw [e, Nat.mul_sub, Nat.mul_comm, Nat.mul_one]
  rw [e2] at h3
  exact (pr_dvd_mul hp h3).resolve_left ha

/-- The sum of the powers below m. -/
def gs (x : Int) : Nat → Int
  | 0 => 0
  | m + 1 => gs x m + x ^ m
theorem gs_mul (x : Int) (m : Nat) : (x - 1) * gs x m = x ^ m - 1 := by
  induction m with
  | zero => simp [gs]
  | succ m ih =>
    simp only [gs]
    rw [Int.mul_add, ih, Int.sub_mul, Int.pow_succ, Int.mul_comm x]; omega
theorem dvd_pow_sub (x : Int) (m : Nat) : x - 1 ∣ x ^ m - 1 := ⟨gs x m, (gs_mul x m).symm⟩
theorem gs_dvd {x d : Int} (h : d ∣ x - 1) (m : Nat) : d ∣ gs x m - m := by
  induction m with
  | zero => exact ⟨0, by simp [gs]⟩
  | succ m ih =>
    have h1 : d ∣ x ^ m - 1 := Int.dvd_trans h (dvd_pow_sub x m)
    have e : gs x (m + 1) - (m + 1 : Nat) = (gs x m - m) + (x ^ m - 1) := by simp only [gs]; omega
    rw [e]; exact Int.dvd_add ih h1
theorem lift {x : Int} {p m : Nat} (hm : 1 ≤ m) (h : ((p ^ m : Nat) : Int) ∣ x - 1) : ((p ^ (m + 1) : Nat) : Int) ∣ x ^ p - 1 := by
  rw [← gs_mul]
  have hp : (p : Int) ∣ x - 1 := Int.dvd_trans (Int.natCast_dvd_natCast.2 (dvd_pow_pos p hm)) h
  have h2 : (p : Int) ∣ gs x p := by
    have := Int.dvd_add (gs_dvd hp p) (Int.dvd_refl (p : Int))
    rwa [Int.sub_add_cancel] at this
  rw [Nat.pow_succ, Int.natCast_mul]
  exact Int.mul_dvd_mul h h2
theorem emod_pow_self (a n : Int) (m : Nat) : (a % n) ^ m % n = a ^ m % n := by
  induction m with
  | zero => simp
  | succ m ih => rw [Int.pow_succ, Int.pow_succ, Int.mul_emod, ih, Int.emod_emod_of_dvd _ (Int.dvd_refl n), ← Int.mul_emod]
theorem dvd_sub_iff {x y n : Int} : n ∣ x - y ↔ x % n = y % n := by
  rw [Int.emod_eq_emod_iff_emod_sub_eq_zero]
  exact Int.dvd_iff_emod_eq_zero
theorem fermat_int {p : Nat} {a : Int} (hp : Pr p) (ha : ¬ (p : Int) ∣ a) : (p : Int) ∣ a ^ (p - 1) - 1 := by
  have h2 := hp.two
  have h0 := Int.emod_nonneg a (show (p : Int) ≠ 0 by omega)
  obtain ⟨b, hb⟩ : ∃ b : Nat, a % (p : Int) = (b : Int) := ⟨(a % (p : Int)).toNat, by omega⟩
  have hnb : ¬ p ∣ b := by
    intro h
    have h3 := Int.natCast_dvd_natCast.2 h
    rw [← hb] at h3
    exact ha (Int.dvd_of_emod_eq_zero (by rw [← Int.emod_emod_of_dvd a (Int.dvd_refl (p : Int))]; exact Int.emod_eq_zero_of_dvd h3))
  have h3 := Int.natCast_dvd_natCast.2 (fermat hp hnb)
  have hb1 : 1 ≤ b := by
    rcases Nat.eq_zero_or_pos b with h | h
    · subst h; exact absurd (Nat.dvd_zero p) hnb
    · exact h
  rw [Int.natCast_sub (Nat.one_le_pow _ _ hb1), Int.natCast_pow, ← hb] at h3
  have h4 := dvd_sub_iff.1 h3
  rw [emod_pow_self] at h4
  exact dvd_sub_iff.2 h4

/-- Euler's function, of the list of prime powers. -/
def phis : List (Nat × Nat) → Nat
  | [] => 1
  | x :: l => x.1 ^ (x.2 - 1) * (x.1 - 1) * phis l
theorem euler_pp {p : Nat} {a : Int} (hp : Pr p) (ha : ¬ (p : Int) ∣ a) : ∀ m, ((p ^ (m + 1) : Nat) : Int) ∣ a ^ (p ^ m * (p - 1)) - 1 := by
  intro m
  induction m with
  | zero => simpa using fermat_int hp ha
  | succ m ih =>
    have := lift (by omega) ih
    have e : p ^ (m + 1) * (p - 1) = p ^ m * (p - 1) * p := by rw [Nat.pow_succ, Nat.mul_assoc, Nat.mul_comm p, ← Nat.mul_assoc]
    rw [e, Int.pow_mul]; exact this
theorem pr_dvd_fprod {p : Nat} (hp : Pr p) : ∀ {l : List (Nat × Nat)}, (∀ x ∈ l, Pr x.1 ∧ 1 ≤ x.2) → p ∣ fprod l → ∃ x ∈ l, p = x.1 := by
  intro l
  induction l with
  | nil => intro _ h; have := Nat.le_of_dvd (by simp [fprod]) h; have := hp.two; simp only [fprod] at *; omega
  | cons y l ih =>
    intro hl h
    rcases pr_dvd_mul hp h with h1 | h1
    · have h2 := pr_dvd_pow hp _ h1
      rcases pr_dvd (hl y (by simp)).1 h2 with h3 | h3
      · have := hp.two; omega
      · exact ⟨y, by simp, h3⟩
    · obtain ⟨x, hx, e⟩ := ih (fun x hx => hl x (by simp [hx])) h1
      exact ⟨x, by simp [hx], e⟩
theorem coprime_pow_left {p b : Nat} (h : Nat.Coprime p b) (m : Nat) : Nat.Coprime (p ^ m) b := Nat.Coprime.pow_left m h
theorem fac_coprime {x : Nat × Nat} {l : List (Nat × Nat)} (hx : Pr x.1) (hl : ∀ y ∈ l, Pr y.1 ∧ 1 ≤ y.2) (hlt : ∀ y ∈ l, x.1 < y.1) : ¬ x.1 ∣ fprod l := by
  intro h
  obtain ⟨y, hy, e⟩ := pr_dvd_fprod hx hl h
  have := hlt y hy; omega
theorem int_coprime_mul_dvd {u v : Nat} {z : Int} (h : Nat.Coprime u v) (h1 : (u : Int) ∣ z) (h2 : (v : Int) ∣ z) : ((u * v : Nat) : Int) ∣ z := by
  rw [Int.ofNat_dvd_left] at h1 h2 ⊢
  exact Nat.Coprime.mul_dvd_of_dvd_of_dvd h h1 h2
theorem pow_sub_dvd {a d : Int} {m : Nat} (h : d ∣ a ^ m - 1) (k : Nat) : d ∣ a ^ (m * k) - 1 := by
  rw [Int.pow_mul]; exact Int.dvd_trans h (dvd_pow_sub _ k)
theorem euler_list {a : Int} : ∀ {l : List (Nat × Nat)}, (∀ x ∈ l, Pr x.1 ∧ 1 ≤ x.2) → l.Pairwise (fun x y => x.1 < y.1) → (∀ x ∈ l, ¬ (x.1 : Int) ∣ a) → ((fprod l : Nat) : Int) ∣ a ^ phis l - 1 := by
  intro l
  induction l with
  | nil => intro _ _ _; simp [fprod]
  | cons x l ih =>
    intro h1 h2 h3
    obtain ⟨h4, h5⟩ := List.pairwise_cons.1 h2
    have hx := h1 x (by simp)
    have I := ih (fun y hy => h1 y (by simp [hy])) h5 (fun y hy => h3 y (by simp [hy]))
    have k := euler_pp hx.1 (h3 x (by simp)) (x.2 - 1)
    rw [show x.2 - 1 + 1 = x.2 by omega] at k
    simp only [fprod, phis]
    refine int_coprime_mul_dvd (coprime_pow_left (pr_coprime hx.1 (fac_coprime hx.1 (fun y hy => h1 y (by simp [hy])) h4)) _) (pow_sub_dvd k _) ?_
    rw [Nat.mul_comm]
    exact pow_sub_dvd I _
theorem euler {a : Int} {n : Nat} {l : List (Nat × Nat)} (h : IsFac n l) (ha : Int.gcd a n = 1) : (n : Int) ∣ a ^ phis l - 1 := by
  rw [← h.prod]
  refine euler_list h.prime h.asc fun x hx hd => ?_
  have h1 := base_dvd_fprod hx (h.prime x hx).2
  rw [h.prod] at h1
  have h2 : x.1 ∣ Int.gcd a n := Int.dvd_gcd hd (Int.natCast_dvd_natCast.2 h1)
  rw [ha] at h2
  have := Nat.le_of_dvd (by omega) h2
  have := (h.prime x hx).1.two
  omega
theorem phis_pos : ∀ {l : List (Nat × Nat)}, (∀ x ∈ l, Pr x.1 ∧ 1 ≤ x.2) → 1 ≤ phis l := by
  intro l
  induction l with
  | nil => intro _; exact Nat.le_refl _
  | cons x l ih =>
    intro h
    have h1 := (h x (by simp)).1.two
    have h2 := ih fun y hy => h y (by simp [hy])
    have h3 : 1 ≤ x.1 ^ (x.2 - 1) := Nat.one_le_pow _ _ (by omega)
    have h4 : 1 ≤ x.1 ^ (x.2 - 1) * (x.1 - 1) := Nat.mul_pos h3 (by omega)
    exact Nat.mul_pos h4 h2
theorem phis_le : ∀ {l : List (Nat × Nat)}, (∀ x ∈ l, Pr x.1 ∧ 1 ≤ x.2) → phis l ≤ fprod l := by
  intro l
  induction l with
  | nil => intro _; exact Nat.le_refl _
  | cons x l ih =>
    intro h
    have h1 := (h x (by simp)).2
    have h2 := ih fun y hy => h y (by simp [hy])
    have h3 : x.1 ^ (x.2 - 1) * (x.1 - 1) ≤ x.1 ^ x.2 := by
      have e : x.1 ^ x.2 = x.1 ^ (x.2 - 1) * x.1 := by rw [← Nat.pow_succ]; congr 1; omega
      rw [e]; exact Nat.mul_le_mul_left _ (by omega)
    exact Nat.mul_le_mul h3 h2

/-! ### the order -/
structure IsOrd (a : Int) (n o : Nat) : Prop where
  pos : 1 ≤ o
  one : (n : Int) ∣ a ^ o - 1
  least : ∀ e, 1 ≤ e → e < o → ¬ (n : Int) ∣ a ^ e - 1
theorem exists_least {P : Nat → Prop} : ∀ {m : Nat}, P m → ∃ k, P k ∧ ∀ j, j < k → ¬ P j := by
  intro m
  induction m using Nat.strongRecOn with
  | ind m ih =>
    intro h
    by_cases hc : ∃ j, j < m ∧ P j
    · obtain ⟨j, h1, h2⟩ := hc
      exact ih j h1 h2
    · exact ⟨m, h, fun j hj hp => hc ⟨j, hj, hp⟩⟩
theorem ord_exists {a : Int} {n m : Nat} (h1 : 1 ≤ m) (h : (n : Int) ∣ a ^ m - 1) : ∃ o, IsOrd a n o := by
  obtain ⟨k, ⟨k1, k2⟩, k3⟩ := exists_least (P := fun k => 1 ≤ k ∧ (n : Int) ∣ a ^ k - 1) ⟨h1, h⟩
  exact ⟨k, k1, k2, fun e h1 h2 h3 => k3 e h2 ⟨h1, h3⟩⟩
theorem IsOrd.dvd {a : Int} {n o e : Nat} (h : IsOrd a n o) (he : (n : Int) ∣ a ^ e - 1) : o ∣ e := by
  have hlt := Nat.mod_lt e (show o > 0 from h.pos)
  rcases Nat.eq_zero_or_pos (e % o) with h0 | h0
  · exact Nat.dvd_of_mod_eq_zero h0
  · refine absurd ?_ (h.least (e % o) h0 hlt)
    have h1 : (n : Int) ∣ a ^ (o * (e / o)) - 1 := pow_sub_dvd h.one _
    have e1 : a ^ e = a ^ (o * (e / o)) * a ^ (e % o) := by rw [← Int.pow_add, Nat.div_add_mod]
    have e2 : a ^ (e % o) - 1 = (a ^ e - 1) - (a ^ (o * (e / o)) - 1) * a ^ (e % o) := by
      rw [e1, Int.sub_mul, Int.one_mul]; omega
    rw [e2]
    exact Int.dvd_sub he (Int.dvd_mul_of_dvd_left h1)
theorem IsOrd.iff {a : Int} {n o e : Nat} (h : IsOrd a n o) : (n : Int) ∣ a ^ e - 1 ↔ o ∣ e := by
  refine ⟨h.dvd, ?_⟩
  rintro ⟨k, rfl⟩
  exact pow_sub_dvd h.one k
theorem IsOrd.unique {a : Int} {n o u : Nat} (h : IsOrd a n o) (k : IsOrd a n u) : o = u := Nat.dvd_antisymm (h.dvd k.one) (k.dvd h.one)
/-- No power of a is 1 if a has a divisor in common with n. -/
theorem no_pow {a : Int} {n e : Nat} (ha : Int.gcd a n ≠ 1) (he : 1 ≤ e) : ¬ (n : Int) ∣ a ^ e - 1 := by
  intro h
  have hg1 : ((Int.gcd a n : Nat) : Int) ∣ a := Int.gcd_dvd_left ..
  have hg2 : ((Int.gcd a n : Nat) : Int) ∣ (n : Int) := Int.gcd_dvd_right ..
  have h1 : ((Int.gcd a n : Nat) : Int) ∣ a ^ e := by
    obtain ⟨k, rfl⟩ : ∃ k, e = k + 1 := ⟨e - 1, by omega⟩
    rw [Int.pow_succ]
    exact Int.dvd_mul_of_dvd_right hg1
  have h2 := Int.dvd_sub h1 (Int.dvd_trans hg2 h)
  rw [show a ^ e - (a ^ e - 1) = 1 by omega] at h2
  have h3 := Int.natCast_dvd_natCast.1 (show ((Int.gcd a n : Nat) : Int) ∣ ((1 : Nat) : Int) from h2)
  exact ha (Nat.dvd_one.1 h3)
end Go.Proofs.Ytnppfagghpjkpaa.Num
