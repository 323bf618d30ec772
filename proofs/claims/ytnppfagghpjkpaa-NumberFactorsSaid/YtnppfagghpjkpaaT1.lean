/- Plain number theory: the extended Euclidean algorithm, uniqueness of inverses. No program. -/
import Init
namespace Go.Proofs.Ytnppfagghpjkpaa.Num

/-- Go's remainder, put right, is the remainder. -/
theorem tmod_fix (a : Int) {n : Int} (hn : 0 < n) : (if a.tmod n < 0 then a.tmod n + n else a.tmod n) = a % n := by
  have h1 := Int.emod_nonneg a (show n ≠ 0 by omega)
  have h2 := Int.emod_lt_of_pos a hn
  have h3 := Int.tmod_lt_of_pos a hn
  have h4 := Int.lt_tmod_of_pos a hn
  have h5 : n ∣ a - a.tmod n := Int.dvd_self_sub_tmod
  have h6 : a.tmod n % n = a % n := by
    have := Int.emod_emod_of_dvd
    have h7 : (a - a.tmod n) % n = 0 := Int.emod_eq_zero_of_dvd h5
    have := Int.emod_eq_emod_iff_emod_sub_eq_zero.2 h7
    exact this.symm
  split
  · rename_i h
    have : (a.tmod n + n) % n = a % n := by rw [Int.add_emod_right, h6]
    rw [← this, Int.emod_eq_of_lt (by omega) (by omega)]
  · rename_i h
    rw [← h6, Int.emod_eq_of_lt (by omega) h3]

theorem tdiv_pos {a b : Int} (ha : 0 ≤ a) : a.tdiv b = a / b := Int.tdiv_eq_ediv_of_nonneg ha
theorem tmod_pos {a b : Int} (ha : 0 ≤ a) : a.tmod b = a % b := Int.tmod_eq_emod_of_nonneg ha

/-- The state of the extended Euclidean algorithm: r ~ a u, s ~ a v modulo n; the gcd; the sizes. -/
structure EInv (a n r s u v : Int) : Prop where
  r0 : 0 ≤ r
  s0 : 0 ≤ s
  du : n ∣ a * u - r
  dv : n ∣ a * v - s
  gcd : Int.gcd r s = Int.gcd a n
  sgn : (0 ≤ u ∧ v ≤ 0 ∧ s * u - r * v = n) ∨ (u ≤ 0 ∧ 0 ≤ v ∧ r * v - s * u = n)

theorem EInv.step {a n r s u v : Int} (hs : s ≠ 0) (h : EInv a n r s u v) : EInv a n s (r - r / s * s) v (u - r / s * v) := by
  have hs0 := h.s0
  have e : r - r / s * s = r % s := by rw [Int.emod_def, Int.mul_comm]
  have hq : 0 ≤ r / s := Int.ediv_nonneg h.r0 hs0
  refine ⟨hs0, by rw [e]; exact Int.emod_nonneg r hs, h.dv, ?_, ?_, ?_⟩
  · obtain ⟨x, hx⟩ := h.du
    obtain ⟨y, hy⟩ := h.dv
    refine ⟨x - r / s * y, ?_⟩
    have : a * (u - r / s * v) - (r - r / s * s) = (a * u - r) - r / s * (a * v - s) := by
      simp only [Int.mul_sub]
      have e1 : a * (r / s * v) = r / s * (a * v) := by rw [← Int.mul_assoc, Int.mul_comm a, Int.mul_assoc]
      rw [e1]; omega
    rw [this, hx, hy, Int.mul_sub]
    have e2 : r / s * (n * y) = n * (r / s * y) := by rw [← Int.mul_assoc, Int.mul_comm (r / s), Int.mul_assoc]
    rw [e2]
  · rw [← h.gcd, Int.gcd_comm r s, Int.gcd_sub_mul_right_right]
  · have e3 : (r - r / s * s) * v - s * (u - r / s * v) = r * v - s * u := by
      simp only [Int.mul_sub, Int.sub_mul]
      have e1 : s * (r / s * v) = r / s * s * v := by rw [← Int.mul_assoc, Int.mul_comm s]
      rw [e1]; omega
    rcases h.sgn with ⟨h1, h2, h3⟩ | ⟨h1, h2, h3⟩
    · refine .inr ⟨h2, ?_, ?_⟩
      · have := Int.mul_nonpos_of_nonneg_of_nonpos hq h2
        omega
      · have e4 : s * (u - r / s * v) - (r - r / s * s) * v = -((r - r / s * s) * v - s * (u - r / s * v)) := by omega
        rw [e4, e3]; omega
    · refine .inl ⟨h2, ?_, ?_⟩
      · have := Int.mul_nonneg hq h2
        omega
      · rw [e3]; exact h3

theorem dvd_of_coprime {k m n : Int} (h : Int.gcd k m = 1) (hd : k ∣ m * n) : k ∣ n := by
  rw [← Int.natAbs_dvd_natAbs] at hd ⊢
  rw [Int.natAbs_mul] at hd
  exact Nat.Coprime.dvd_of_dvd_mul_left (k := k.natAbs) (m := m.natAbs) h hd

/-- x solves a x ~ g modulo n, g the gcd, and lies in its range. -/
structure IsHalf (a n g x : Int) : Prop where
  gcd : g = (Int.gcd a n : Int)
  x0 : 0 ≤ x
  x1 : x < n / g
  dvd : n ∣ a * x - g

theorem half_done {a n r u v : Int} (hn : 0 < n) (h : EInv a n r 0 u v) : r ≠ 0 ∧ 0 < n / r ∧ IsHalf a n r (u % (n / r)) := by
  have hg : r = (Int.gcd a n : Int) := by
    rw [← h.gcd, Int.gcd_zero]
    have := h.r0; omega
  have hr0 := h.r0
  have hr : r ≠ 0 := by
    rintro rfl
    have : Int.gcd a n ≠ 0 := Int.gcd_ne_zero_right (by omega)
    omega
  have hd : r ∣ n := by rw [hg]; exact Int.gcd_dvd_right ..
  have ha : r ∣ a := by rw [hg]; exact Int.gcd_dvd_left ..
  obtain ⟨n', hn'⟩ := hd
  obtain ⟨a', ha'⟩ := ha
  have hdiv : n / r = n' := by rw [hn']; exact Int.mul_ediv_cancel_left n' hr
  have hn'0 : 0 < n' := by
    rcases Int.lt_trichotomy n' 0 with h1 | h1 | h1
    · have := Int.mul_nonpos_of_nonneg_of_nonpos hr0 (show n' ≤ 0 by omega); omega
    · subst h1; omega
    · exact h1
  refine ⟨hr, by omega, hg, ?_, ?_, ?_⟩
  · rw [hdiv]; exact Int.emod_nonneg u (by omega)
  · rw [hdiv]; exact Int.emod_lt_of_pos u hn'0
  · rw [hdiv]
    have e1 : u % n' = u - n' * (u / n') := Int.emod_def u n'
    rw [e1, Int.mul_sub]
    have e2 : a * (n' * (u / n')) = n * (a' * (u / n')) := by
      rw [ha', hn']
      rw [Int.mul_assoc, Int.mul_assoc, ← Int.mul_assoc a', Int.mul_comm a' n', Int.mul_assoc]
    rw [e2]
    obtain ⟨x, hx⟩ := h.du
    exact ⟨x - a' * (u / n'), by rw [Int.mul_sub, ← hx]; omega⟩

theorem IsHalf.unique {a n g x y : Int} (hn : 0 < n) (h : IsHalf a n g x) (k : IsHalf a n g y) : x = y := by
  have hg := h.gcd
  have hg0 : 0 < g := by
    have : Int.gcd a n ≠ 0 := Int.gcd_ne_zero_right (by omega)
    omega
  have hd : g ∣ n := by rw [hg]; exact Int.gcd_dvd_right ..
  have ha : g ∣ a := by rw [hg]; exact Int.gcd_dvd_left ..
  obtain ⟨n', hn'⟩ := hd
  obtain ⟨a', ha'⟩ := ha
  have hdiv : n / g = n' := by rw [hn']; exact Int.mul_ediv_cancel_left n' (by omega)
  have hco : Int.gcd n' a' = 1 := by
    have h1 : Int.gcd a n = g.natAbs * Int.gcd a' n' := by rw [hn', ha', Int.gcd_mul_left]
    have h2 : g.natAbs = Int.gcd a n := by omega
    have h3 : g.natAbs * Int.gcd a' n' = g.natAbs * 1 := by rw [← h1, h2]; omega
    rw [Int.gcd_comm]
    exact Nat.eq_of_mul_eq_mul_left (by omega) h3
  have hx0 := h.x0; have hx1 := h.x1; have hy0 := k.x0; have hy1 := k.x1
  rw [hdiv] at hx1 hy1
  have hdv : n ∣ a * (x - y) := by
    obtain ⟨p, hp⟩ := h.dvd
    obtain ⟨q, hq⟩ := k.dvd
    exact ⟨p - q, by rw [Int.mul_sub, Int.mul_sub, ← hp, ← hq]; omega⟩
  have hdv' : n' ∣ a' * (x - y) := by
    obtain ⟨p, hp⟩ := hdv
    refine ⟨p, ?_⟩
    rw [ha', hn', Int.mul_assoc, Int.mul_assoc] at hp
    exact Int.eq_of_mul_eq_mul_left (by omega) hp
  obtain ⟨q, hq⟩ := dvd_of_coprime hco hdv'
  have hn'0 : 0 < n' := by omega
  rcases Int.lt_trichotomy q 0 with h1 | h1 | h1
  · have : n' * q ≤ n' * (-1) := Int.mul_le_mul_of_nonneg_left (by omega) (by omega)
    omega
  · subst h1; omega
  · have : n' * 1 ≤ n' * q := Int.mul_le_mul_of_nonneg_left (by omega) (by omega)
    omega

theorem EInv.start {a n : Int} (ha : 0 ≤ a) (hn : 0 < n) : EInv a n a n 1 0 :=
  ⟨ha, by omega, ⟨0, by omega⟩, ⟨-1, by omega⟩, rfl, .inl ⟨by omega, by omega, by omega⟩⟩
theorem EInv.start' {a n : Int} (ha : 0 ≤ a) (hn : 0 < n) : EInv a n n a 0 1 :=
  ⟨by omega, ha, ⟨-1, by omega⟩, ⟨0, by omega⟩, Int.gcd_comm .., .inr ⟨by omega, by omega, by omega⟩⟩

/-- The sizes of the numbers in a step. -/
theorem EInv.sizes {a n r s u v : Int} (hs : s ≠ 0) (h : EInv a n r s u v) : -n ≤ u ∧ u ≤ n ∧ -n ≤ u - r / s * v ∧ u - r / s * v ≤ n ∧ -n ≤ r / s * v ∧ r / s * v ≤ n := by
  have hs1 : 1 ≤ s := by have := h.s0; omega
  have hr0 := h.r0
  have hq : 0 ≤ r / s := Int.ediv_nonneg h.r0 h.s0
  have hqs : r / s * s ≤ r := Int.ediv_mul_le r hs
  rcases h.sgn with ⟨h1, h2, h3⟩ | ⟨h1, h2, h3⟩
  · have k1 : 1 * u ≤ s * u := Int.mul_le_mul_of_nonneg_right hs1 h1
    have k2 : 0 ≤ r * (-v) := Int.mul_nonneg hr0 (by omega)
    have k3 : r * (-v) = -(r * v) := Int.mul_neg ..
    have k4 : 0 ≤ r / s * (-v) := Int.mul_nonneg hq (by omega)
    have k5 : r / s * (-v) = -(r / s * v) := Int.mul_neg ..
    have k6 : 1 * (r / s * (-v)) ≤ s * (r / s * (-v)) := Int.mul_le_mul_of_nonneg_right hs1 k4
    have k7 : s * (r / s * (-v)) = r / s * s * (-v) := by rw [← Int.mul_assoc, Int.mul_comm s]
    have k8 : r / s * s * (-v) ≤ r * (-v) := Int.mul_le_mul_of_nonneg_right hqs (by omega)
    refine ⟨?_, ?_, ?_, ?_, ?_, ?_⟩ <;> omega
  · have k1 : 1 * (-u) ≤ s * (-u) := Int.mul_le_mul_of_nonneg_right hs1 (by omega)
    have k1' : s * (-u) = -(s * u) := Int.mul_neg ..
    have k2 : 0 ≤ r * v := Int.mul_nonneg hr0 h2
    have k4 : 0 ≤ r / s * v := Int.mul_nonneg hq h2
    have k6 : 1 * (r / s * v) ≤ s * (r / s * v) := Int.mul_le_mul_of_nonneg_right hs1 k4
    have k7 : s * (r / s * v) = r / s * s * v := by rw [← Int.mul_assoc, Int.mul_comm s]
    have k8 : r / s * s * v ≤ r * v := Int.mul_le_mul_of_nonneg_right hqs h2
    refine ⟨?_, ?_, ?_, ?_, ?_, ?_⟩ <;> omega
theorem EInv.div_le {a n r s u v : Int} (hs : s ≠ 0) (h : EInv a n r s u v) : 0 ≤ r / s ∧ r / s ≤ r ∧ 0 ≤ r / s * s ∧ r / s * s ≤ r ∧ 0 ≤ r - r / s * s ∧ r - r / s * s < s := by
  have hs1 : 1 ≤ s := by have := h.s0; omega
  have hq : 0 ≤ r / s := Int.ediv_nonneg h.r0 h.s0
  have hqs : r / s * s ≤ r := Int.ediv_mul_le r hs
  have k : r / s * 1 ≤ r / s * s := Int.mul_le_mul_of_nonneg_left hs1 hq
  have e : r - r / s * s = r % s := by rw [Int.emod_def, Int.mul_comm]
  have h1 := Int.emod_nonneg r hs
  have h2 := Int.emod_lt_of_pos r (show 0 < s by omega)
  omega
end Go.Proofs.Ytnppfagghpjkpaa.Num
