import Derived.Test.YtnppfagghpjkpaaProg
import Derived.Below
import Derived.Deep.Draws
import Derived.Deep.AppendLies
import Derived.Maps.AppendAt
import Derived.OwnWalk
import Derived.Laws.BytesArg
import Derived.Laws.MakeOwn
import Derived.Laws.OwnMore
import Derived.Deep.OwnRows
import Derived.Tactics
import Derived.Lib.ConvBytes
import Derived.Laws.Slices
import Derived.WalkKit
import Derived.KernelRfl
import Derived.RowKit3
import Derived.Deep.LoopGhost
import Derived.Deep.QuietTactic
import Derived.BigQuiet
import Derived.WideLaws
import Derived.Deep.DeepCutAuto
import Derived.Deep.CutBlock
import Derived.Deep.RegionHeld3
import Derived.Laws.Rows
import Derived.Lib.AppendStr
import Derived.ArgAppend
import Derived.Laws.IdiomCopy
import Derived.OrdersHeld
import Derived.Laws.BitsLemmas
import Derived.RowKit
import Derived.Test.YtnppfagghpjkpaaWWords
import Derived.Test.YtnppfagghpjkpaaWLast
import Derived.Test.YtnppfagghpjkpaaWTab
import Derived.Test.YtnppfagghpjkpaaWFour
import Derived.Test.YtnppfagghpjkpaaWQPut
import Derived.Test.YtnppfagghpjkpaaWApart
import Derived.Test.YtnppfagghpjkpaaWArr
import Derived.Test.YtnppfagghpjkpaaWZeros
import Derived.Test.YtnppfagghpjkpaaWFoot
import Derived.Test.YtnppfagghpjkpaaWKept
import Derived.Test.YtnppfagghpjkpaaWShare
import Derived.Test.YtnppfagghpjkpaaWN
import Derived.Test.YtnppfagghpjkpaaWFootNe
import Derived.Test.YtnppfagghpjkpaaWAt
import Derived.Test.YtnppfagghpjkpaaWEqStruct
import Derived.Test.YtnppfagghpjkpaaWRepsOne
import Derived.Test.YtnppfagghpjkpaaWInv
import Derived.Test.YtnppfagghpjkpaaWInvWords
import Derived.Test.YtnppfagghpjkpaaWGuard
import Derived.Test.YtnppfagghpjkpaaWNEv
import Derived.Test.YtnppfagghpjkpaaWMore
import Derived.Test.YtnppfagghpjkpaaHPlain
import Derived.Outline
namespace Go.Proofs.Ytnppfagghpjkpaa.Num
open Go.RowKit Go.Proofs.YtnppfagghpjkpaaW.PrintWords Go.Proofs.YtnppfagghpjkpaaW.PrintLast Go.Proofs.YtnppfagghpjkpaaW.PrintMore
set_option linter.unusedVariables false
set_option linter.unusedSimpArgs false

abbrev wheelV : Value := .agg #[.int .i64 1, .int .i64 7, .int .i64 11, .int .i64 13, .int .i64 17, .int .i64 19, .int .i64 23, .int .i64 29]
set_option maxRecDepth 100000 in
theorem wheel_calls (w : World) : Calls Try.prog 71 #[] w fun e w' => e = .returned (.agg #[.int .i64 1, .int .i64 7, .int .i64 11, .int .i64 13, .int .i64 17, .int .i64 19, .int .i64 23, .int .i64 29]) ∧ Below w.heap.size w w' := by
  go_enter Try.func71, Try.ntmps71
  go_wp2
  exact bodyPost_ret (v := .agg #[.int .i64 1, .int .i64 7, .int .i64 11, .int .i64 13, .int .i64 17, .int .i64 19, .int .i64 23, .int .i64 29]) (by simp [results, Try.results71, go_sem]) rfl ⟨rfl, (Below.refl _ _).alloc (Nat.le_refl _) _⟩
def wp3 : Nat → Nat | 0 => 2 | 1 => 3 | _ => 5
theorem ret_least {n r : Nat} (hn : 2 ≤ n) (h : IsLeast n r) : Ending.returned (.int .i64 (r : Int)) = .returned (.int .i64 ((ldiv n : Nat) : Int)) := by rw [ldiv_eq hn h]
theorem mod_true {n d : Nat} {D : Int} (hD : D = (d : Int)) (h : n % d = 0) : ((n : Int) % D == 0) = true := by subst hD; rw [beq_iff_eq]; exact_mod_cast h
theorem mod_false {n d : Nat} {D : Int} (hD : D = (d : Int)) (h : ¬ n % d = 0) : ((n : Int) % D == 0) = false := by subst hD; rw [beq_eq_false_iff_ne]; exact_mod_cast h
theorem small_sq {a n : Nat} (h : a * a ≤ n) (hn : n ≤ 2147483647) : a ≤ 46340 := by
  rcases Nat.lt_or_ge a 46341 with h1 | h1
  · omega
  · have := Nat.mul_le_mul h1 h1; omega

theorem wheel_at0 (w : World) : (Instr.index 69 (.agg #[.int .i64 1, .int .i64 7, .int .i64 11, .int .i64 13, .int .i64 17, .int .i64 19, .int .i64 23, .int .i64 29]) (.int .i64 0)).run Try.prog w = .ok (.int .i64 1) w := by kernel_rfl
theorem wheel_at1 (w : World) : (Instr.index 69 (.agg #[.int .i64 1, .int .i64 7, .int .i64 11, .int .i64 13, .int .i64 17, .int .i64 19, .int .i64 23, .int .i64 29]) (.int .i64 1)).run Try.prog w = .ok (.int .i64 7) w := by kernel_rfl
theorem wheel_at2 (w : World) : (Instr.index 69 (.agg #[.int .i64 1, .int .i64 7, .int .i64 11, .int .i64 13, .int .i64 17, .int .i64 19, .int .i64 23, .int .i64 29]) (.int .i64 2)).run Try.prog w = .ok (.int .i64 11) w := by kernel_rfl
theorem wheel_at3 (w : World) : (Instr.index 69 (.agg #[.int .i64 1, .int .i64 7, .int .i64 11, .int .i64 13, .int .i64 17, .int .i64 19, .int .i64 23, .int .i64 29]) (.int .i64 3)).run Try.prog w = .ok (.int .i64 13) w := by kernel_rfl
theorem wheel_at4 (w : World) : (Instr.index 69 (.agg #[.int .i64 1, .int .i64 7, .int .i64 11, .int .i64 13, .int .i64 17, .int .i64 19, .int .i64 23, .int .i64 29]) (.int .i64 4)).run Try.prog w = .ok (.int .i64 17) w := by kernel_rfl
theorem wheel_at5 (w : World) : (Instr.index 69 (.agg #[.int .i64 1, .int .i64 7, .int .i64 11, .int .i64 13, .int .i64 17, .int .i64 19, .int .i64 23, .int .i64 29]) (.int .i64 5)).run Try.prog w = .ok (.int .i64 19) w := by kernel_rfl
theorem wheel_at6 (w : World) : (Instr.index 69 (.agg #[.int .i64 1, .int .i64 7, .int .i64 11, .int .i64 13, .int .i64 17, .int .i64 19, .int .i64 23, .int .i64 29]) (.int .i64 6)).run Try.prog w = .ok (.int .i64 23) w := by kernel_rfl
theorem wheel_at7 (w : World) : (Instr.index 69 (.agg #[.int .i64 1, .int .i64 7, .int .i64 11, .int .i64 13, .int .i64 17, .int .i64 19, .int .i64 23, .int .i64 29]) (.int .i64 7)).run Try.prog w = .ok (.int .i64 29) w := by kernel_rfl

set_option maxRecDepth 100000 in
set_option maxHeartbeats 4000000 in
theorem least_walk (n : Nat) (hn : 2 ≤ n) (hm : n ≤ 2147483647) (w : World) :
    Calls Try.prog 50 #[.int .i64 n] w fun e w' => e = .returned (.int .i64 (ldiv n : Nat)) ∧ Below w.heap.size w w' := by
  go_enter Try.func50, Try.ntmps50
  go_wp2
  go_step3
  go_wp2
  go_loopg [12] 3 (fun g v12 wr => ∃ j : Nat, j + g = 3 ∧ v12 = .int .i64 j ∧ Aside0 (∀ i, i < j → n % (wp3 i) ≠ 0) ∧ wr = w.alloc (.cells #[.int .i64 2, .int .i64 3, .int .i64 5] 3))
  case atStart => exact ⟨0, rfl, rfl, ⟨fun i hi => by omega⟩, rfl⟩
  case round =>
    obtain ⟨j, hj, rfl, HA, rfl⟩ := hrel
    have HB0 : Aside0 (Below w.heap.size w (w.alloc (.cells #[.int .i64 2, .int .i64 3, .int .i64 5] 3))) := ⟨(Below.refl _ _).alloc (Nat.le_refl _) _⟩
    cases gk with
    | zero =>
      obtain rfl : j = 3 := by omega
      have h2 := HA.out 0 (by omega)
      have h3 := HA.out 1 (by omega)
      have h5 := HA.out 2 (by omega)
      simp only [wp3] at h2 h3 h5
      have HN : Aside0 (n % 2 ≠ 0 ∧ n % 3 ≠ 0 ∧ n % 5 ≠ 0) := ⟨h2, h3, h5⟩
      clear h2 h3 h5 HA hj
      go_wp2
      go_step3
      go_wp2
      go_loopg [5, 6] 100000 (fun g v5 v6 wr => ∃ m : Nat, m + g = 100000 ∧ v5 = .int .i64 n ∧ v6 = .int .i64 (30 * m : Nat) ∧ Aside0 (NoDiv n (30 * m + wh 0)) ∧ (30 * m ≤ 46400) ∧ Aside0 (Below w.heap.size w wr))
      case atStart => exact ⟨0, rfl, rfl, rfl, ⟨noDiv_start n⟩, by omega, HB0⟩
      case round =>
        obtain ⟨gko, hgko⟩ : ∃ g0 : Nat, g0 = gk := ⟨gk, rfl⟩
        obtain ⟨m, hmg, rfl, rfl, HD, hm2, HB⟩ := hrel
        subst hgko
        have HG : Aside0 (m + gko = 100000) := ⟨hmg⟩
        clear hmg HB0
        obtain ⟨b, hb⟩ : ∃ b : Nat, 30 * m = b := ⟨_, rfl⟩
        rw [hb] at hm2 HD ⊢
        have HBM := Aside0.mk hb
        clear hb
        go_wp2_with fail
        refine (wheel_calls _).mono ?_
        rintro e w1 ⟨rfl, hbl⟩
        have HB1 : Aside0 (Below w.heap.size w w1) := ⟨below_then HB.out HB.out.size hbl⟩
        clear hbl HB
        go_wp2
        go_loopg [5, 26] 8 (fun g2 v5 v26 wy => ∃ j : Nat, j + g2 = 8 ∧ v5 = .int .i64 n ∧ v26 = .int .i64 j ∧ Aside0 (NoDiv n (b + wh j)) ∧ Aside0 (j ≤ 1 ∨ (b + 7) * (b + 7) ≤ n) ∧ Aside0 (Below w.heap.size w wy))
        case atStart => exact ⟨0, rfl, rfl, rfl, HD, ⟨.inl (by omega)⟩, HB1⟩
        case round =>
          obtain ⟨j, hj, rfl, rfl, HD2, HQ, HB2⟩ := hrel
          clear HD HB1
          cases gk with
          | zero =>
            obtain rfl : j = 8 := by omega
            clear hj
            have hq : b + 7 ≤ 46340 := small_sq (by rcases HQ.out with h | h; exact absurd h (by omega); exact h) hm
            go_wp2
            go_roundg (gko - 1)
            case measure => have := HG.out; have := HBM.out; omega
            case rel =>
              have := HG.out; have hbm := HBM.out
              exact ⟨m + 1, by omega, rfl, congrArg (Value.int .i64) (by omega), ⟨noDiv_turn (by rw [hbm]; exact HD2.out)⟩, by omega, HB2⟩
          | succ g2 =>
            have hj8 : j = 0 ∨ j = 1 ∨ j = 2 ∨ j = 3 ∨ j = 4 ∨ j = 5 ∨ j = 6 ∨ j = 7 := by omega
            have HJ := Aside0.mk hj
            clear hj
            rcases hj8 with rfl | rfl | rfl | rfl | rfl | rfl | rfl | rfl

            · have ix := wheel_at0
              have hsq : (((b : Int) + 1) * ((b : Int) + 1)) = (((b + 1) * (b + 1) : Nat) : Int) := by push_cast; rfl
              have hsb : ((b + 1) * (b + 1) : Nat) ≤ 46429 * 46429 := Nat.mul_le_mul (by omega) (by omega)
              have hs1 : ((b : Int) + 1) * ((b : Int) + 1) ≤ 3000000000 := by rw [hsq]; omega
              have hs0 : 0 ≤ ((b : Int) + 1) * ((b : Int) + 1) := by rw [hsq]; omega
              by_cases h1 : b + 1 = 1
              · have hb1 : ((b : Int) + 1 == 1) = true := by rw [beq_iff_eq]; omega
                have HN2 : Aside0 (NoDiv n (b + wh (0 + 1))) := by
                  have hbm := HBM.out
                  refine ⟨?_⟩
                  rw [← hbm]
                  exact wheel_step HN.out.1 HN.out.2.1 HN.out.2.2 (by omega) (by rw [hbm]; exact HD2.out) (.inl (by rw [hbm]; exact h1))
                clear hsq hsb h1
                go_wp2
                go_roundg g2
                case measure => omega
                case rel => exact ⟨1, by have := HJ.out; omega, rfl, rfl, HN2, ⟨.inl (by omega)⟩, HB2⟩
              · have hb1 : ((b : Int) + 1 == 1) = false := by rw [beq_eq_false_iff_ne]; omega
                by_cases h2 : n < (b + 1) * (b + 1)
                · have hb2 : decide ((n : Int) < ((b : Int) + 1) * ((b : Int) + 1)) = true := by rw [hsq]; exact decide_eq_true (by omega)
                  have HR : Aside0 (IsLeast n n) := ⟨least_self hn h2 HD2.out⟩
                  clear hsq hsb h1 h2
                  go_wp2
                  rw [Exit.noGoto_ret]
                  go_ret
                  exact ⟨ret_least hn HR.out, HB2.out⟩
                · have hb2 : decide ((n : Int) < ((b : Int) + 1) * ((b : Int) + 1)) = false := by rw [hsq]; exact decide_eq_false (by omega)
                  by_cases h3 : n % (b + 1) = 0
                  · have hb3 : ((n : Int) % ((b : Int) + 1) == 0) = true := mod_true (by push_cast; rfl) h3
                    have HR : Aside0 (IsLeast n (b + 1)) := ⟨by omega, h3, HD2.out⟩
                    clear hsq hsb h1 h2 h3
                    go_wp2
                    rw [Exit.noGoto_ret]
                    go_ret
                    exact ⟨ret_least hn HR.out, HB2.out⟩
                  · have hb3 : ((n : Int) % ((b : Int) + 1) == 0) = false := mod_false (by push_cast; rfl) h3
                    have HN2 : Aside0 (NoDiv n (b + wh (0 + 1))) := by
                      have hbm := HBM.out
                      refine ⟨?_⟩
                      rw [← hbm]
                      exact wheel_step HN.out.1 HN.out.2.1 HN.out.2.2 (by omega) (by rw [hbm]; exact HD2.out) (.inr (by rw [hbm]; exact h3))
                    have HQ2 : Aside0 (0 + 1 ≤ 1 ∨ (b + 7) * (b + 7) ≤ n) := ⟨.inl (by omega)⟩
                    clear hsq hsb h1 h2 h3
                    go_wp2
                    go_roundg g2
                    case measure => omega
                    case rel => exact ⟨0 + 1, by have := HJ.out; omega, rfl, rfl, HN2, HQ2, HB2⟩
            · have ix := wheel_at1
              have hsq : (((b : Int) + 7) * ((b : Int) + 7)) = (((b + 7) * (b + 7) : Nat) : Int) := by push_cast; rfl
              have hsb : ((b + 7) * (b + 7) : Nat) ≤ 46429 * 46429 := Nat.mul_le_mul (by omega) (by omega)
              have hs1 : ((b : Int) + 7) * ((b : Int) + 7) ≤ 3000000000 := by rw [hsq]; omega
              have hs0 : 0 ≤ ((b : Int) + 7) * ((b : Int) + 7) := by rw [hsq]; omega
              by_cases h1 : b + 7 = 1
              · have hb1 : ((b : Int) + 7 == 1) = true := by rw [beq_iff_eq]; omega
                have HN2 : Aside0 (NoDiv n (b + wh (1 + 1))) := by
                  have hbm := HBM.out
                  refine ⟨?_⟩
                  rw [← hbm]
                  exact wheel_step HN.out.1 HN.out.2.1 HN.out.2.2 (by omega) (by rw [hbm]; exact HD2.out) (.inl (by rw [hbm]; exact h1))
                clear hsq hsb h1
                exact absurd hb1 (by rw [beq_iff_eq]; omega)
              · have hb1 : ((b : Int) + 7 == 1) = false := by rw [beq_eq_false_iff_ne]; omega
                by_cases h2 : n < (b + 7) * (b + 7)
                · have hb2 : decide ((n : Int) < ((b : Int) + 7) * ((b : Int) + 7)) = true := by rw [hsq]; exact decide_eq_true (by omega)
                  have HR : Aside0 (IsLeast n n) := ⟨least_self hn h2 HD2.out⟩
                  clear hsq hsb h1 h2
                  go_wp2
                  rw [Exit.noGoto_ret]
                  go_ret
                  exact ⟨ret_least hn HR.out, HB2.out⟩
                · have hb2 : decide ((n : Int) < ((b : Int) + 7) * ((b : Int) + 7)) = false := by rw [hsq]; exact decide_eq_false (by omega)
                  by_cases h3 : n % (b + 7) = 0
                  · have hb3 : ((n : Int) % ((b : Int) + 7) == 0) = true := mod_true (by push_cast; rfl) h3
                    have HR : Aside0 (IsLeast n (b + 7)) := ⟨by omega, h3, HD2.out⟩
                    clear hsq hsb h1 h2 h3
                    go_wp2
                    rw [Exit.noGoto_ret]
                    go_ret
                    exact ⟨ret_least hn HR.out, HB2.out⟩
                  · have hb3 : ((n : Int) % ((b : Int) + 7) == 0) = false := mod_false (by push_cast; rfl) h3
                    have HN2 : Aside0 (NoDiv n (b + wh (1 + 1))) := by
                      have hbm := HBM.out
                      refine ⟨?_⟩
                      rw [← hbm]
                      exact wheel_step HN.out.1 HN.out.2.1 HN.out.2.2 (by omega) (by rw [hbm]; exact HD2.out) (.inr (by rw [hbm]; exact h3))
                    have HQ2 : Aside0 (1 + 1 ≤ 1 ∨ (b + 7) * (b + 7) ≤ n) := ⟨.inr (by omega)⟩
                    clear hsq hsb h1 h2 h3
                    go_wp2
                    go_roundg g2
                    case measure => omega
                    case rel => exact ⟨1 + 1, by have := HJ.out; omega, rfl, rfl, HN2, HQ2, HB2⟩
            · have ix := wheel_at2
              have hsq : (((b : Int) + 11) * ((b : Int) + 11)) = (((b + 11) * (b + 11) : Nat) : Int) := by push_cast; rfl
              have hsb : ((b + 11) * (b + 11) : Nat) ≤ 46429 * 46429 := Nat.mul_le_mul (by omega) (by omega)
              have hs1 : ((b : Int) + 11) * ((b : Int) + 11) ≤ 3000000000 := by rw [hsq]; omega
              have hs0 : 0 ≤ ((b : Int) + 11) * ((b : Int) + 11) := by rw [hsq]; omega
              by_cases h1 : b + 11 = 1
              · have hb1 : ((b : Int) + 11 == 1) = true := by rw [beq_iff_eq]; omega
                have HN2 : Aside0 (NoDiv n (b + wh (2 + 1))) := by
                  have hbm := HBM.out
                  refine ⟨?_⟩
                  rw [← hbm]
                  exact wheel_step HN.out.1 HN.out.2.1 HN.out.2.2 (by omega) (by rw [hbm]; exact HD2.out) (.inl (by rw [hbm]; exact h1))
                clear hsq hsb h1
                exact absurd hb1 (by rw [beq_iff_eq]; omega)
              · have hb1 : ((b : Int) + 11 == 1) = false := by rw [beq_eq_false_iff_ne]; omega
                by_cases h2 : n < (b + 11) * (b + 11)
                · have hb2 : decide ((n : Int) < ((b : Int) + 11) * ((b : Int) + 11)) = true := by rw [hsq]; exact decide_eq_true (by omega)
                  have HR : Aside0 (IsLeast n n) := ⟨least_self hn h2 HD2.out⟩
                  clear hsq hsb h1 h2
                  go_wp2
                  rw [Exit.noGoto_ret]
                  go_ret
                  exact ⟨ret_least hn HR.out, HB2.out⟩
                · have hb2 : decide ((n : Int) < ((b : Int) + 11) * ((b : Int) + 11)) = false := by rw [hsq]; exact decide_eq_false (by omega)
                  by_cases h3 : n % (b + 11) = 0
                  · have hb3 : ((n : Int) % ((b : Int) + 11) == 0) = true := mod_true (by push_cast; rfl) h3
                    have HR : Aside0 (IsLeast n (b + 11)) := ⟨by omega, h3, HD2.out⟩
                    clear hsq hsb h1 h2 h3
                    go_wp2
                    rw [Exit.noGoto_ret]
                    go_ret
                    exact ⟨ret_least hn HR.out, HB2.out⟩
                  · have hb3 : ((n : Int) % ((b : Int) + 11) == 0) = false := mod_false (by push_cast; rfl) h3
                    have HN2 : Aside0 (NoDiv n (b + wh (2 + 1))) := by
                      have hbm := HBM.out
                      refine ⟨?_⟩
                      rw [← hbm]
                      exact wheel_step HN.out.1 HN.out.2.1 HN.out.2.2 (by omega) (by rw [hbm]; exact HD2.out) (.inr (by rw [hbm]; exact h3))
                    have HQ2 : Aside0 (2 + 1 ≤ 1 ∨ (b + 7) * (b + 7) ≤ n) := ⟨.inr (HQ.out.elim (fun h => absurd h (by omega)) id)⟩
                    clear hsq hsb h1 h2 h3
                    go_wp2
                    go_roundg g2
                    case measure => omega
                    case rel => exact ⟨2 + 1, by have := HJ.out; omega, rfl, rfl, HN2, HQ2, HB2⟩
            · have ix := wheel_at3
              have hsq : (((b : Int) + 13) * ((b : Int) + 13)) = (((b + 13) * (b + 13) : Nat) : Int) := by push_cast; rfl
              have hsb : ((b + 13) * (b + 13) : Nat) ≤ 46429 * 46429 := Nat.mul_le_mul (by omega) (by omega)
              have hs1 : ((b : Int) + 13) * ((b : Int) + 13) ≤ 3000000000 := by rw [hsq]; omega
              have hs0 : 0 ≤ ((b : Int) + 13) * ((b : Int) + 13) := by rw [hsq]; omega
              by_cases h1 : b + 13 = 1
              · have hb1 : ((b : Int) + 13 == 1) = true := by rw [beq_iff_eq]; omega
                have HN2 : Aside0 (NoDiv n (b + wh (3 + 1))) := by
                  have hbm := HBM.out
                  refine ⟨?_⟩
                  rw [← hbm]
                  exact wheel_step HN.out.1 HN.out.2.1 HN.out.2.2 (by omega) (by rw [hbm]; exact HD2.out) (.inl (by rw [hbm]; exact h1))
                clear hsq hsb h1
                exact absurd hb1 (by rw [beq_iff_eq]; omega)
              · have hb1 : ((b : Int) + 13 == 1) = false := by rw [beq_eq_false_iff_ne]; omega
                by_cases h2 : n < (b + 13) * (b + 13)
                · have hb2 : decide ((n : Int) < ((b : Int) + 13) * ((b : Int) + 13)) = true := by rw [hsq]; exact decide_eq_true (by omega)
                  have HR : Aside0 (IsLeast n n) := ⟨least_self hn h2 HD2.out⟩
                  clear hsq hsb h1 h2
                  go_wp2
                  rw [Exit.noGoto_ret]
                  go_ret
                  exact ⟨ret_least hn HR.out, HB2.out⟩
                · have hb2 : decide ((n : Int) < ((b : Int) + 13) * ((b : Int) + 13)) = false := by rw [hsq]; exact decide_eq_false (by omega)
                  by_cases h3 : n % (b + 13) = 0
                  · have hb3 : ((n : Int) % ((b : Int) + 13) == 0) = true := mod_true (by push_cast; rfl) h3
                    have HR : Aside0 (IsLeast n (b + 13)) := ⟨by omega, h3, HD2.out⟩
                    clear hsq hsb h1 h2 h3
                    go_wp2
                    rw [Exit.noGoto_ret]
                    go_ret
                    exact ⟨ret_least hn HR.out, HB2.out⟩
                  · have hb3 : ((n : Int) % ((b : Int) + 13) == 0) = false := mod_false (by push_cast; rfl) h3
                    have HN2 : Aside0 (NoDiv n (b + wh (3 + 1))) := by
                      have hbm := HBM.out
                      refine ⟨?_⟩
                      rw [← hbm]
                      exact wheel_step HN.out.1 HN.out.2.1 HN.out.2.2 (by omega) (by rw [hbm]; exact HD2.out) (.inr (by rw [hbm]; exact h3))
                    have HQ2 : Aside0 (3 + 1 ≤ 1 ∨ (b + 7) * (b + 7) ≤ n) := ⟨.inr (HQ.out.elim (fun h => absurd h (by omega)) id)⟩
                    clear hsq hsb h1 h2 h3
                    go_wp2
                    go_roundg g2
                    case measure => omega
                    case rel => exact ⟨3 + 1, by have := HJ.out; omega, rfl, rfl, HN2, HQ2, HB2⟩
            · have ix := wheel_at4
              have hsq : (((b : Int) + 17) * ((b : Int) + 17)) = (((b + 17) * (b + 17) : Nat) : Int) := by push_cast; rfl
              have hsb : ((b + 17) * (b + 17) : Nat) ≤ 46429 * 46429 := Nat.mul_le_mul (by omega) (by omega)
              have hs1 : ((b : Int) + 17) * ((b : Int) + 17) ≤ 3000000000 := by rw [hsq]; omega
              have hs0 : 0 ≤ ((b : Int) + 17) * ((b : Int) + 17) := by rw [hsq]; omega
              by_cases h1 : b + 17 = 1
              · have hb1 : ((b : Int) + 17 == 1) = true := by rw [beq_iff_eq]; omega
                have HN2 : Aside0 (NoDiv n (b + wh (4 + 1))) := by
                  have hbm := HBM.out
                  refine ⟨?_⟩
                  rw [← hbm]
                  exact wheel_step HN.out.1 HN.out.2.1 HN.out.2.2 (by omega) (by rw [hbm]; exact HD2.out) (.inl (by rw [hbm]; exact h1))
                clear hsq hsb h1
                exact absurd hb1 (by rw [beq_iff_eq]; omega)
              · have hb1 : ((b : Int) + 17 == 1) = false := by rw [beq_eq_false_iff_ne]; omega
                by_cases h2 : n < (b + 17) * (b + 17)
                · have hb2 : decide ((n : Int) < ((b : Int) + 17) * ((b : Int) + 17)) = true := by rw [hsq]; exact decide_eq_true (by omega)
                  have HR : Aside0 (IsLeast n n) := ⟨least_self hn h2 HD2.out⟩
                  clear hsq hsb h1 h2
                  go_wp2
                  rw [Exit.noGoto_ret]
                  go_ret
                  exact ⟨ret_least hn HR.out, HB2.out⟩
                · have hb2 : decide ((n : Int) < ((b : Int) + 17) * ((b : Int) + 17)) = false := by rw [hsq]; exact decide_eq_false (by omega)
                  by_cases h3 : n % (b + 17) = 0
                  · have hb3 : ((n : Int) % ((b : Int) + 17) == 0) = true := mod_true (by push_cast; rfl) h3
                    have HR : Aside0 (IsLeast n (b + 17)) := ⟨by omega, h3, HD2.out⟩
                    clear hsq hsb h1 h2 h3
                    go_wp2
                    rw [Exit.noGoto_ret]
                    go_ret
                    exact ⟨ret_least hn HR.out, HB2.out⟩
                  · have hb3 : ((n : Int) % ((b : Int) + 17) == 0) = false := mod_false (by push_cast; rfl) h3
                    have HN2 : Aside0 (NoDiv n (b + wh (4 + 1))) := by
                      have hbm := HBM.out
                      refine ⟨?_⟩
                      rw [← hbm]
                      exact wheel_step HN.out.1 HN.out.2.1 HN.out.2.2 (by omega) (by rw [hbm]; exact HD2.out) (.inr (by rw [hbm]; exact h3))
                    have HQ2 : Aside0 (4 + 1 ≤ 1 ∨ (b + 7) * (b + 7) ≤ n) := ⟨.inr (HQ.out.elim (fun h => absurd h (by omega)) id)⟩
                    clear hsq hsb h1 h2 h3
                    go_wp2
                    go_roundg g2
                    case measure => omega
                    case rel => exact ⟨4 + 1, by have := HJ.out; omega, rfl, rfl, HN2, HQ2, HB2⟩
            · have ix := wheel_at5
              have hsq : (((b : Int) + 19) * ((b : Int) + 19)) = (((b + 19) * (b + 19) : Nat) : Int) := by push_cast; rfl
              have hsb : ((b + 19) * (b + 19) : Nat) ≤ 46429 * 46429 := Nat.mul_le_mul (by omega) (by omega)
              have hs1 : ((b : Int) + 19) * ((b : Int) + 19) ≤ 3000000000 := by rw [hsq]; omega
              have hs0 : 0 ≤ ((b : Int) + 19) * ((b : Int) + 19) := by rw [hsq]; omega
              by_cases h1 : b + 19 = 1
              · have hb1 : ((b : Int) + 19 == 1) = true := by rw [beq_iff_eq]; omega
                have HN2 : Aside0 (NoDiv n (b + wh (5 + 1))) := by
                  have hbm := HBM.out
                  refine ⟨?_⟩
                  rw [← hbm]
                  exact wheel_step HN.out.1 HN.out.2.1 HN.out.2.2 (by omega) (by rw [hbm]; exact HD2.out) (.inl (by rw [hbm]; exact h1))
                clear hsq hsb h1
                exact absurd hb1 (by rw [beq_iff_eq]; omega)
              · have hb1 : ((b : Int) + 19 == 1) = false := by rw [beq_eq_false_iff_ne]; omega
                by_cases h2 : n < (b + 19) * (b + 19)
                · have hb2 : decide ((n : Int) < ((b : Int) + 19) * ((b : Int) + 19)) = true := by rw [hsq]; exact decide_eq_true (by omega)
                  have HR : Aside0 (IsLeast n n) := ⟨least_self hn h2 HD2.out⟩
                  clear hsq hsb h1 h2
                  go_wp2
                  rw [Exit.noGoto_ret]
                  go_ret
                  exact ⟨ret_least hn HR.out, HB2.out⟩
                · have hb2 : decide ((n : Int) < ((b : Int) + 19) * ((b : Int) + 19)) = false := by rw [hsq]; exact decide_eq_false (by omega)
                  by_cases h3 : n % (b + 19) = 0
                  · have hb3 : ((n : Int) % ((b : Int) + 19) == 0) = true := mod_true (by push_cast; rfl) h3
                    have HR : Aside0 (IsLeast n (b + 19)) := ⟨by omega, h3, HD2.out⟩
                    clear hsq hsb h1 h2 h3
                    go_wp2
                    rw [Exit.noGoto_ret]
                    go_ret
                    exact ⟨ret_least hn HR.out, HB2.out⟩
                  · have hb3 : ((n : Int) % ((b : Int) + 19) == 0) = false := mod_false (by push_cast; rfl) h3
                    have HN2 : Aside0 (NoDiv n (b + wh (5 + 1))) := by
                      have hbm := HBM.out
                      refine ⟨?_⟩
                      rw [← hbm]
                      exact wheel_step HN.out.1 HN.out.2.1 HN.out.2.2 (by omega) (by rw [hbm]; exact HD2.out) (.inr (by rw [hbm]; exact h3))
                    have HQ2 : Aside0 (5 + 1 ≤ 1 ∨ (b + 7) * (b + 7) ≤ n) := ⟨.inr (HQ.out.elim (fun h => absurd h (by omega)) id)⟩
                    clear hsq hsb h1 h2 h3
                    go_wp2
                    go_roundg g2
                    case measure => omega
                    case rel => exact ⟨5 + 1, by have := HJ.out; omega, rfl, rfl, HN2, HQ2, HB2⟩
            · have ix := wheel_at6
              have hsq : (((b : Int) + 23) * ((b : Int) + 23)) = (((b + 23) * (b + 23) : Nat) : Int) := by push_cast; rfl
              have hsb : ((b + 23) * (b + 23) : Nat) ≤ 46429 * 46429 := Nat.mul_le_mul (by omega) (by omega)
              have hs1 : ((b : Int) + 23) * ((b : Int) + 23) ≤ 3000000000 := by rw [hsq]; omega
              have hs0 : 0 ≤ ((b : Int) + 23) * ((b : Int) + 23) := by rw [hsq]; omega
              by_cases h1 : b + 23 = 1
              · have hb1 : ((b : Int) + 23 == 1) = true := by rw [beq_iff_eq]; omega
                have HN2 : Aside0 (NoDiv n (b + wh (6 + 1))) := by
                  have hbm := HBM.out
                  refine ⟨?_⟩
                  rw [← hbm]
                  exact wheel_step HN.out.1 HN.out.2.1 HN.out.2.2 (by omega) (by rw [hbm]; exact HD2.out) (.inl (by rw [hbm]; exact h1))
                clear hsq hsb h1
                exact absurd hb1 (by rw [beq_iff_eq]; omega)
              · have hb1 : ((b : Int) + 23 == 1) = false := by rw [beq_eq_false_iff_ne]; omega
                by_cases h2 : n < (b + 23) * (b + 23)
                · have hb2 : decide ((n : Int) < ((b : Int) + 23) * ((b : Int) + 23)) = true := by rw [hsq]; exact decide_eq_true (by omega)
                  have HR : Aside0 (IsLeast n n) := ⟨least_self hn h2 HD2.out⟩
                  clear hsq hsb h1 h2
                  go_wp2
                  rw [Exit.noGoto_ret]
                  go_ret
                  exact ⟨ret_least hn HR.out, HB2.out⟩
                · have hb2 : decide ((n : Int) < ((b : Int) + 23) * ((b : Int) + 23)) = false := by rw [hsq]; exact decide_eq_false (by omega)
                  by_cases h3 : n % (b + 23) = 0
                  · have hb3 : ((n : Int) % ((b : Int) + 23) == 0) = true := mod_true (by push_cast; rfl) h3
                    have HR : Aside0 (IsLeast n (b + 23)) := ⟨by omega, h3, HD2.out⟩
                    clear hsq hsb h1 h2 h3
                    go_wp2
                    rw [Exit.noGoto_ret]
                    go_ret
                    exact ⟨ret_least hn HR.out, HB2.out⟩
                  · have hb3 : ((n : Int) % ((b : Int) + 23) == 0) = false := mod_false (by push_cast; rfl) h3
                    have HN2 : Aside0 (NoDiv n (b + wh (6 + 1))) := by
                      have hbm := HBM.out
                      refine ⟨?_⟩
                      rw [← hbm]
                      exact wheel_step HN.out.1 HN.out.2.1 HN.out.2.2 (by omega) (by rw [hbm]; exact HD2.out) (.inr (by rw [hbm]; exact h3))
                    have HQ2 : Aside0 (6 + 1 ≤ 1 ∨ (b + 7) * (b + 7) ≤ n) := ⟨.inr (HQ.out.elim (fun h => absurd h (by omega)) id)⟩
                    clear hsq hsb h1 h2 h3
                    go_wp2
                    go_roundg g2
                    case measure => omega
                    case rel => exact ⟨6 + 1, by have := HJ.out; omega, rfl, rfl, HN2, HQ2, HB2⟩
            · have ix := wheel_at7
              have hsq : (((b : Int) + 29) * ((b : Int) + 29)) = (((b + 29) * (b + 29) : Nat) : Int) := by push_cast; rfl
              have hsb : ((b + 29) * (b + 29) : Nat) ≤ 46429 * 46429 := Nat.mul_le_mul (by omega) (by omega)
              have hs1 : ((b : Int) + 29) * ((b : Int) + 29) ≤ 3000000000 := by rw [hsq]; omega
              have hs0 : 0 ≤ ((b : Int) + 29) * ((b : Int) + 29) := by rw [hsq]; omega
              by_cases h1 : b + 29 = 1
              · have hb1 : ((b : Int) + 29 == 1) = true := by rw [beq_iff_eq]; omega
                have HN2 : Aside0 (NoDiv n (b + wh (7 + 1))) := by
                  have hbm := HBM.out
                  refine ⟨?_⟩
                  rw [← hbm]
                  exact wheel_step HN.out.1 HN.out.2.1 HN.out.2.2 (by omega) (by rw [hbm]; exact HD2.out) (.inl (by rw [hbm]; exact h1))
                clear hsq hsb h1
                exact absurd hb1 (by rw [beq_iff_eq]; omega)
              · have hb1 : ((b : Int) + 29 == 1) = false := by rw [beq_eq_false_iff_ne]; omega
                by_cases h2 : n < (b + 29) * (b + 29)
                · have hb2 : decide ((n : Int) < ((b : Int) + 29) * ((b : Int) + 29)) = true := by rw [hsq]; exact decide_eq_true (by omega)
                  have HR : Aside0 (IsLeast n n) := ⟨least_self hn h2 HD2.out⟩
                  clear hsq hsb h1 h2
                  go_wp2
                  rw [Exit.noGoto_ret]
                  go_ret
                  exact ⟨ret_least hn HR.out, HB2.out⟩
                · have hb2 : decide ((n : Int) < ((b : Int) + 29) * ((b : Int) + 29)) = false := by rw [hsq]; exact decide_eq_false (by omega)
                  by_cases h3 : n % (b + 29) = 0
                  · have hb3 : ((n : Int) % ((b : Int) + 29) == 0) = true := mod_true (by push_cast; rfl) h3
                    have HR : Aside0 (IsLeast n (b + 29)) := ⟨by omega, h3, HD2.out⟩
                    clear hsq hsb h1 h2 h3
                    go_wp2
                    rw [Exit.noGoto_ret]
                    go_ret
                    exact ⟨ret_least hn HR.out, HB2.out⟩
                  · have hb3 : ((n : Int) % ((b : Int) + 29) == 0) = false := mod_false (by push_cast; rfl) h3
                    have HN2 : Aside0 (NoDiv n (b + wh (7 + 1))) := by
                      have hbm := HBM.out
                      refine ⟨?_⟩
                      rw [← hbm]
                      exact wheel_step HN.out.1 HN.out.2.1 HN.out.2.2 (by omega) (by rw [hbm]; exact HD2.out) (.inr (by rw [hbm]; exact h3))
                    have HQ2 : Aside0 (7 + 1 ≤ 1 ∨ (b + 7) * (b + 7) ≤ n) := ⟨.inr (HQ.out.elim (fun h => absurd h (by omega)) id)⟩
                    clear hsq hsb h1 h2 h3
                    go_wp2
                    go_roundg g2
                    case measure => omega
                    case rel => exact ⟨7 + 1, by have := HJ.out; omega, rfl, rfl, HN2, HQ2, HB2⟩
    | succ g =>
      have hj3 : j = 0 ∨ j = 1 ∨ j = 2 := by omega
      rcases hj3 with rfl | rfl | rfl
      · by_cases h : n % 2 = 0
        · have hb : ((n : Int) % 2 == 0) = true := by rw [beq_iff_eq]; omega
          have HR : Aside0 (IsLeast n 2) := by
            refine ⟨⟨by omega, h, fun e h2 hlt => ?_⟩⟩
            exact absurd h2 (by omega)
          clear h
          go_wp2
          rw [Exit.noGoto_ret]
          go_ret
          exact ⟨ret_least hn HR.out, HB0.out⟩
        · have hb : ((n : Int) % 2 == 0) = false := by rw [beq_eq_false_iff_ne]; omega
          have HA2 : Aside0 (∀ i, i < 0 + 1 → n % (wp3 i) ≠ 0) := by
            refine ⟨fun i hi => ?_⟩
            rcases Nat.lt_or_ge i 0 with h1 | h1
            · exact HA.out i h1
            · obtain rfl : i = 0 := by omega
              exact h
          clear h
          go_wp2
          go_roundg g
          case measure => omega
          case rel => exact ⟨0 + 1, by omega, rfl, HA2, rfl⟩
      · by_cases h : n % 3 = 0
        · have hb : ((n : Int) % 3 == 0) = true := by rw [beq_iff_eq]; omega
          have HR : Aside0 (IsLeast n 3) := by
            refine ⟨⟨by omega, h, fun e h2 hlt => ?_⟩⟩
            obtain rfl : e = 2 := by omega
            exact HA.out 0 (by omega)
          clear h
          go_wp2
          rw [Exit.noGoto_ret]
          go_ret
          exact ⟨ret_least hn HR.out, HB0.out⟩
        · have hb : ((n : Int) % 3 == 0) = false := by rw [beq_eq_false_iff_ne]; omega
          have HA2 : Aside0 (∀ i, i < 1 + 1 → n % (wp3 i) ≠ 0) := by
            refine ⟨fun i hi => ?_⟩
            rcases Nat.lt_or_ge i 1 with h1 | h1
            · exact HA.out i h1
            · obtain rfl : i = 1 := by omega
              exact h
          clear h
          go_wp2
          go_roundg g
          case measure => omega
          case rel => exact ⟨1 + 1, by omega, rfl, HA2, rfl⟩
      · by_cases h : n % 5 = 0
        · have hb : ((n : Int) % 5 == 0) = true := by rw [beq_iff_eq]; omega
          have HR : Aside0 (IsLeast n 5) := by
            refine ⟨⟨by omega, h, fun e h2 hlt => ?_⟩⟩
            have k2 := HA.out 0 (by omega)
            have k3 := HA.out 1 (by omega)
            simp only [wp3] at k2 k3
            intro he
            have he4 : e = 2 ∨ e = 3 ∨ e = 4 := by omega
            rcases he4 with rfl | rfl | rfl
            · exact k2 he
            · exact k3 he
            · exact k2 (by omega)
          clear h
          go_wp2
          rw [Exit.noGoto_ret]
          go_ret
          exact ⟨ret_least hn HR.out, HB0.out⟩
        · have hb : ((n : Int) % 5 == 0) = false := by rw [beq_eq_false_iff_ne]; omega
          have HA2 : Aside0 (∀ i, i < 2 + 1 → n % (wp3 i) ≠ 0) := by
            refine ⟨fun i hi => ?_⟩
            rcases Nat.lt_or_ge i 2 with h1 | h1
            · exact HA.out i h1
            · obtain rfl : i = 2 := by omega
              exact h
          clear h
          go_wp2
          go_roundg g
          case measure => omega
          case rel => exact ⟨2 + 1, by omega, rfl, HA2, rfl⟩

/-- What number.least answers, for numbers from 2 to MaxNumber. -/
def number_least.f (a0 : Int) : Option (Int) := if 2 ≤ a0 ∧ a0 ≤ 2147483647 then some ((ldiv a0.toNat : Nat) : Int) else none
theorem number_least.calls (a0 : Int) (r : Int) (w : World) (h : number_least.f a0 = some r) :
    Calls Try.prog 50 #[.int .i64 a0] w fun e w' => e = .returned (.int .i64 r) ∧ Below w.heap.size w w' := by
  unfold number_least.f at h
  split at h
  · rename_i hc
    obtain ⟨n, rfl⟩ := Int.eq_ofNat_of_zero_le (show 0 ≤ a0 by omega)
    obtain rfl := Option.some.inj h
    exact least_walk n (by omega) (by omega) w
  · exact absurd h (by simp)
end Go.Proofs.Ytnppfagghpjkpaa.Num
