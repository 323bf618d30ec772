/- What bits.Mul64 and bits.Div64 answer. -/
import Derived.Test.YtnppfagghpjkpaaE0
import Derived.Laws.BitsLemmas
import Derived.Lib.BitFns
import Derived.Test.YtnppfagghpjkpaaNumx4
import Derived.Test.YtnppfagghpjkpaaNumx5
namespace Go.Proofs.Ytnppfagghpjkpaa.Num
set_option linter.unusedVariables false
open Go.RowKit Go.Proofs.YtnppfagghpjkpaaW.PrintWords Go.Proofs.YtnppfagghpjkpaaW.PrintMore

theorem uwrap (n : Int) : IntKind.u64.wrap n = n % 18446744073709551616 := by simp [IntKind.wrap, IntKind.bits, IntKind.signed]
theorem uw {n : Int} (h0 : 0 ≤ n) (h1 : n ≤ 18446744073709551615) : IntKind.u64.wrap n = n := by rw [uwrap]; omega
theorem u_and_low (x : Int) (h0 : 0 ≤ x) (h1 : x ≤ 18446744073709551615) : Go.bits .and .u64 x 4294967295 = x % 4294967296 := by
  have := bits_mask .u64 64 (by decide) (fun n h0 h1 => uw h0 (by omega)) 32 (by decide) x h0 (by omega)
  simpa using this

theorem prod_lt {x y : Int} (hx : 0 ≤ x) (hx2 : x ≤ 4294967295) (hy : 0 ≤ y) (hy2 : y ≤ 4294967295) : 0 ≤ x * y ∧ x * y ≤ 18446744065119617025 := by
  refine ⟨Int.mul_nonneg hx hy, ?_⟩
  have := Int.mul_le_mul hx2 hy2 hy (by omega)
  omega
theorem mul64 (x y : Int) (hx : 0 ≤ x) (hx2 : x ≤ 18446744073709551615) (hy : 0 ≤ y) (hy2 : y ≤ 18446744073709551615) : bits_Mul64.f x y = some (x * y / 18446744073709551616, x * y % 18446744073709551616) := by
  unfold bits_Mul64.f
  rw [u_and_low x hx hx2, u_and_low y hy hy2]
  obtain ⟨p1, p2⟩ := prod_lt (x := x / 4294967296) (y := y / 4294967296) (by omega) (by omega) (by omega) (by omega)
  obtain ⟨q1, q2⟩ := prod_lt (x := x / 4294967296) (y := y % 4294967296) (by omega) (by omega) (by omega) (by omega)
  obtain ⟨r1, r2⟩ := prod_lt (x := x % 4294967296) (y := y / 4294967296) (by omega) (by omega) (by omega) (by omega)
  obtain ⟨s1, s2⟩ := prod_lt (x := x % 4294967296) (y := y % 4294967296) (by omega) (by omega) (by omega) (by omega)
  have hx3 : x = x / 4294967296 * 4294967296 + x % 4294967296 := by omega
  have hy3 : y = y / 4294967296 * 4294967296 + y % 4294967296 := by omega
  have hxy : x * y = x / 4294967296 * (y / 4294967296) * 18446744073709551616 + (x / 4294967296 * (y % 4294967296) + x % 4294967296 * (y / 4294967296)) * 4294967296 + x % 4294967296 * (y % 4294967296) := by
    generalize x / 4294967296 = a at *
    generalize x % 4294967296 = b at *
    generalize y / 4294967296 = c at *
    generalize y % 4294967296 = d at *
    rw [hx3, hy3, Int.add_mul, Int.mul_add, Int.mul_add]
    have e1 : a * 4294967296 * (c * 4294967296) = a * c * 18446744073709551616 := by
      rw [Int.mul_assoc, Int.mul_comm 4294967296, Int.mul_assoc, ← Int.mul_assoc a]; rfl
    have e2 : a * 4294967296 * d = a * d * 4294967296 := by rw [Int.mul_assoc, Int.mul_comm 4294967296, ← Int.mul_assoc]
    have e3 : b * (c * 4294967296) = b * c * 4294967296 := by rw [← Int.mul_assoc]
    rw [e1, e2, e3]; omega
  rw [hxy]
  generalize x / 4294967296 * (y / 4294967296) = P at *
  generalize x / 4294967296 * (y % 4294967296) = Q at *
  generalize x % 4294967296 * (y / 4294967296) = R at *
  generalize x % 4294967296 * (y % 4294967296) = S at *
  have w1 : IntKind.u64.wrap S = S := uw (by omega) (by omega)
  have w2 : IntKind.u64.wrap Q = Q := uw (by omega) (by omega)
  have w3 : IntKind.u64.wrap P = P := uw (by omega) (by omega)
  have w4 : IntKind.u64.wrap R = R := uw (by omega) (by omega)
  have w5 : IntKind.u64.wrap (Q + S / 4294967296) = Q + S / 4294967296 := uw (by omega) (by omega)
  rw [w1, w2, w3, w4, w5, u_and_low _ (by omega) (by omega)]
  have w6 : IntKind.u64.wrap ((Q + S / 4294967296) % 4294967296 + R) = (Q + S / 4294967296) % 4294967296 + R := uw (by omega) (by omega)
  have w7 : IntKind.u64.wrap (P + (Q + S / 4294967296) / 4294967296) = P + (Q + S / 4294967296) / 4294967296 := uw (by omega) (by omega)
  rw [w6, w7, uwrap, uwrap]
  congr 2 <;> omega
end Go.Proofs.Ytnppfagghpjkpaa.Num
