/- bits.Div64, from its arguments. -/
import Derived.Test.YtnppfagghpjkpaaE6
import Derived.Test.YtnppfagghpjkpaaNumx5
namespace Go.Proofs.Ytnppfagghpjkpaa.Num
set_option linter.unusedVariables false
open Go.RowKit Go.Proofs.YtnppfagghpjkpaaW.PrintWords Go.Proofs.YtnppfagghpjkpaaW.PrintMore

theorem bitLenAux_lt : ∀ (f x : Nat), x < 2 ^ f → x < 2 ^ Lib.bitLenAux f x := by
  intro f
  induction f with
  | zero => intro x h; simpa [Lib.bitLenAux] using h
  | succ f ih =>
    intro x h
    unfold Lib.bitLenAux
    split
    · omega
    · have := ih (x / 2) (by rw [Nat.pow_succ] at h; omega)
      rw [Nat.pow_add]; omega
theorem bitLenAux_ge : ∀ (f x : Nat), x ≠ 0 → x < 2 ^ f → 2 ^ Lib.bitLenAux f x ≤ 2 * x := by
  intro f
  induction f with
  | zero => intro x h0 h; simp at h; omega
  | succ f ih =>
    intro x h0 h
    unfold Lib.bitLenAux
    rw [if_neg h0]
    by_cases h1 : x / 2 = 0
    · rw [h1]
      have : Lib.bitLenAux f 0 = 0 := by cases f <;> simp [Lib.bitLenAux]
      rw [this]; simp; omega
    · have := ih (x / 2) h1 (by rw [Nat.pow_succ] at h; omega)
      rw [Nat.pow_add]; omega
/-- How far a divisor is shifted. -/
theorem shift_norm {y : Nat} (h0 : y ≠ 0) (h1 : y < 2 ^ 64) : ∃ s : Nat, s ≤ 63 ∧ (64 : Int) - (Lib.bitLen y : Int) = (s : Int) ∧ 2 ^ 63 ≤ y * 2 ^ s ∧ y * 2 ^ s < 2 ^ 64 := by
  have k1 := bitLenAux_lt 64 y h1
  have k2 := bitLenAux_ge 64 y h0 h1
  have k3 := Lib.bitLen_le y 64 (Nat.le_refl _) h1
  have e : Lib.bitLenAux 64 y = Lib.bitLen y := rfl
  rw [e] at k1 k2
  generalize Lib.bitLen y = b at *
  have hb : 1 ≤ b := by
    rcases Nat.eq_zero_or_pos b with h | h
    · subst h; simp at k1; omega
    · exact h
  refine ⟨64 - b, by omega, by omega, ?_, ?_⟩
  · have e2 : 2 ^ 64 = 2 ^ b * 2 ^ (64 - b) := by rw [← Nat.pow_add]; congr 1; omega
    have := Nat.mul_le_mul_right (2 ^ (64 - b)) k2
    rw [← e2, Nat.mul_assoc] at this
    omega
  · have e2 : 2 ^ 64 = 2 ^ b * 2 ^ (64 - b) := by rw [← Nat.pow_add]; congr 1; omega
    rw [e2]
    exact Nat.mul_lt_mul_of_pos_right k1 (Nat.two_pow_pos _)
theorem u_or_join (i : Nat) (hi : i ≤ 64) (x y : Int) (hx0 : 0 ≤ x) (hx : x % 2 ^ i = 0) (hx1 : x ≤ 18446744073709551615) (hy0 : 0 ≤ y) (hy : y < 2 ^ i) (hy1 : y ≤ 18446744073709551615) : Go.bits .or .u64 x y = x + y :=
  bits_join .u64 64 (by decide) (fun n h0 h1 => uw h0 (by omega)) i x y hx0 hx (by omega) hy0 hy (by omega)

/-- Both shifted numbers. -/
theorem div_shift {hi lo y s : Nat} (hs : s ≤ 63) (hy : hi < y) (hl : lo < 2 ^ 64) (h1 : 2 ^ 63 ≤ y * 2 ^ s) (h2 : y * 2 ^ s < 2 ^ 64) :
    let U := hi * 2 ^ s + lo / 2 ^ (64 - s)
    U < y * 2 ^ s ∧ (U * 2 ^ 64 + lo * 2 ^ s % 2 ^ 64) / (y * 2 ^ s) = (hi * 2 ^ 64 + lo) / y := by
  intro U
  have hp : 0 < 2 ^ s := Nat.two_pow_pos s
  have e1 : 2 ^ 64 = 2 ^ (64 - s) * 2 ^ s := by rw [← Nat.pow_add]; congr 1; omega
  have hlt : lo / 2 ^ (64 - s) < 2 ^ s := by
    rw [Nat.div_lt_iff_lt_mul (Nat.two_pow_pos _), Nat.mul_comm]; rwa [e1] at hl
  refine ⟨?_, ?_⟩
  · have : (hi + 1) * 2 ^ s ≤ y * 2 ^ s := Nat.mul_le_mul_right _ hy
    rw [Nat.add_mul] at this
    show hi * 2 ^ s + lo / 2 ^ (64 - s) < _
    omega
  · have e2 : lo * 2 ^ s / 2 ^ 64 = lo / 2 ^ (64 - s) := by
      rw [e1]; exact Nat.mul_div_mul_right lo (2 ^ (64 - s)) hp
    have e3 := Nat.div_add_mod (lo * 2 ^ s) (2 ^ 64)
    rw [e2] at e3
    have e4 : U * 2 ^ 64 + lo * 2 ^ s % 2 ^ 64 = (hi * 2 ^ 64 + lo) * 2 ^ s := by
      show (hi * 2 ^ s + lo / 2 ^ (64 - s)) * 2 ^ 64 + lo * 2 ^ s % 2 ^ 64 = _
      rw [Nat.add_mul, Nat.add_mul, Nat.add_assoc, Nat.mul_comm (lo / 2 ^ (64 - s)), e3]
      congr 1
      rw [Nat.mul_assoc, Nat.mul_comm (2 ^ s), ← Nat.mul_assoc]
    rw [e4]
    exact Nat.mul_div_mul_right _ _ hp

theorem ev_no_ex {c : Prop} [Decidable c] {f g : Nat → Option (Int × Int)} {a : Int} (h : ¬ c) (H : ∃ r, Ev g (a, r)) : ∃ r, Ev (fun k => if c then f k else g k) (a, r) := by
  obtain ⟨r, H⟩ := H; exact ⟨r, ev_no h H⟩
theorem ev_yes_ex {c : Prop} [Decidable c] {f g : Nat → Option (Int × Int)} {a : Int} (h : c) (H : ∃ r, Ev f (a, r)) : ∃ r, Ev (fun k => if c then f k else g k) (a, r) := by
  obtain ⟨r, H⟩ := H; exact ⟨r, ev_yes h H⟩
theorem ev_let_ex {α : Type} {o : Option α} {x : α} {f : Nat → α → Option (Int × Int)} {a : Int} (h : o = some x) (H : ∃ r, Ev (fun k => f k x) (a, r)) : ∃ r, Ev (fun k => o.bind (f k)) (a, r) := by
  obtain ⟨r, H⟩ := H; exact ⟨r, ev_let h H⟩
theorem shl_nat {x s : Nat} (hs : s ≤ 64) (h : x * 2 ^ s < 2 ^ 64) : shl .u64 (x : Int) (s : Int) = ((x * 2 ^ s : Nat) : Int) := by
  have e : (x : Int) * 2 ^ s = ((x * 2 ^ s : Nat) : Int) := by push_cast; rfl
  show IntKind.u64.wrap ((x : Int) * 2 ^ min (s : Int).toNat 64) = _
  rw [Int.toNat_natCast, Nat.min_eq_left hs, e]
  generalize x * 2 ^ s = z at *
  exact uw (by omega) (by omega)
theorem shl_mod {x s : Nat} (hs : s ≤ 64) : shl .u64 (x : Int) (s : Int) = ((x * 2 ^ s % 2 ^ 64 : Nat) : Int) := by
  have e : (x : Int) * 2 ^ s = ((x * 2 ^ s : Nat) : Int) := by push_cast; rfl
  show IntKind.u64.wrap ((x : Int) * 2 ^ min (s : Int).toNat 64) = _
  rw [Int.toNat_natCast, Nat.min_eq_left hs, e]
  generalize x * 2 ^ s = z at *
  rw [uwrap]; omega
theorem shr_nat {x s : Nat} (hs : s ≤ 64) : shr .u64 (x : Int) ((64 : Int) - (s : Int)) = ((x / 2 ^ (64 - s) : Nat) : Int) := by
  show (x : Int) / 2 ^ min ((64 : Int) - (s : Int)).toNat 64 = _
  rw [show ((64 : Int) - (s : Int)).toNat = 64 - s by omega, Nat.min_eq_left (by omega)]
  push_cast; rfl

theorem div64 {hi lo y : Nat} (hy : hi < y) (hy2 : y < 2 ^ 64) (hl : lo < 2 ^ 64) : ∃ r, Ev (fun k => bits_Div64.f k (hi : Int) (lo : Int) (y : Int)) (((hi * 2 ^ 64 + lo) / y : Nat), r) := by
  unfold bits_Div64.f
  by_cases h0 : hi = 0
  · subst h0
    refine ev_pair (ev_no (by omega) (ev_no (by omega) (ev_yes rfl (Ev.now _)))) ?_
    show IntKind.u64.wrap (Int.tdiv (lo : Int) (y : Int)) = _
    have : lo / y ≤ lo := Nat.div_le_self _ _
    have e : Int.tdiv (lo : Int) (y : Int) = ((lo / y : Nat) : Int) := rfl
    rw [e, Nat.zero_mul, Nat.zero_add]
    generalize lo / y = q at *
    rw [uw (by omega) (by omega)]
  · obtain ⟨s, hs, hse, n1, n2⟩ := shift_norm (y := y) (by omega) hy2
    obtain ⟨d1, d2⟩ := div_shift (lo := lo) hs hy hl n1 n2
    have hlead : bits_LeadingZeros64.f (y : Int) = some (s : Int) := by
      unfold bits_LeadingZeros64.f
      rw [if_pos ⟨by omega, by omega⟩, Int.toNat_natCast, hse]
    have hws : IntKind.u64.wrap (s : Int) = (s : Int) := uw (by omega) (by omega)
    have hw64 : IntKind.u64.wrap ((64 : Int) - (s : Int)) = (64 : Int) - (s : Int) := uw (by omega) (by omega)
    have hhi : hi * 2 ^ s < 2 ^ 64 := by
      have : hi * 2 ^ s ≤ y * 2 ^ s := Nat.mul_le_mul_right _ (by omega)
      omega
    have hp : 0 < 2 ^ s := Nat.two_pow_pos s
    have e1 : 2 ^ 64 = 2 ^ (64 - s) * 2 ^ s := by rw [← Nat.pow_add]; congr 1; omega
    have hlt : lo / 2 ^ (64 - s) < 2 ^ s := by
      rw [Nat.div_lt_iff_lt_mul (Nat.two_pow_pos _), Nat.mul_comm]; rwa [e1] at hl
    have hor : Go.bits .or .u64 ((hi * 2 ^ s : Nat) : Int) ((lo / 2 ^ (64 - s) : Nat) : Int) = ((hi * 2 ^ s + lo / 2 ^ (64 - s) : Nat) : Int) := by
      have hps : (2 : Int) ^ s = ((2 ^ s : Nat) : Int) := by push_cast; rfl
      have hq : lo / 2 ^ (64 - s) ≤ lo := Nat.div_le_self _ _
      rw [u_or_join s (by omega) _ _ (Int.natCast_nonneg _) ?_ ?_ (Int.natCast_nonneg _) ?_ ?_]
      · push_cast; rfl
      · rw [hps]
        have : hi * 2 ^ s % 2 ^ s = 0 := Nat.mul_mod_left _ _
        exact_mod_cast this
      · generalize hi * 2 ^ s = z at *; omega
      · rw [hps]; exact_mod_cast hlt
      · generalize lo / 2 ^ (64 - s) = z at *; omega
    refine ev_no_ex (by omega) (ev_no_ex (by omega) (ev_no_ex (by omega) (ev_let_ex hlead ?_)))
    rw [hws, hw64]
    refine ev_yes_ex (by omega) (ev_yes_ex (by omega) ?_)
    rw [shl_nat (by omega) n2, shl_nat (by omega) hhi, shl_mod (by omega), shr_nat (by omega), hor]
    generalize hY : y * 2 ^ s = Y at *
    generalize hU : hi * 2 ^ s + lo / 2 ^ (64 - s) = U at *
    have hmod := Nat.mod_lt (lo * 2 ^ s) (show 2 ^ 64 > 0 by omega)
    generalize hL : lo * 2 ^ s % 2 ^ 64 = L at *
    rw [u_and_low _ (by omega) (by omega), u_and_low _ (by omega) (by omega)]
    refine ev_no_ex (by omega) ?_
    have hn : Norm (Y : Int) ((Y : Int) / 4294967296) ((Y : Int) % 4294967296) := ⟨by omega, by omega, by omega, by omega, by omega⟩
    obtain ⟨r, hr⟩ := div_digits (s := (s : Int)) (U := (U : Int)) (d := (L : Int) / 4294967296) (d' := (L : Int) % 4294967296) hn (by omega) (by omega) (by omega) (by omega) (by omega) (by omega) (by omega)
    have e5 : (U : Int) * 18446744073709551616 + (L : Int) / 4294967296 * 4294967296 + (L : Int) % 4294967296 = ((U * 2 ^ 64 + L : Nat) : Int) := by
      omega
    rw [e5, ← Int.natCast_ediv, d2] at hr
    exact ⟨r, hr⟩
end Go.Proofs.Ytnppfagghpjkpaa.Num
