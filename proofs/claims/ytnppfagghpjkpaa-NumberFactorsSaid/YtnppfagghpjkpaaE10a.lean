/- What the reference's Least and Factor answer. -/
import Derived.Test.YtnppfagghpjkpaaE1r
import Derived.Test.YtnppfagghpjkpaaNumx9
namespace Go.Proofs.Ytnppfagghpjkpaa.Num
set_option linter.unusedVariables false
open Go.RowKit Go.Proofs.YtnppfagghpjkpaaW.PrintWords

theorem rd_fac (A B : List (Nat × Nat)) (x : Nat × Nat) : rd_T29 ((A ++ x :: B).map toS) (A.length : Int) = toS x := by
  unfold rd_T29
  simp [List.getD_eq_getElem?_getD]

/-! the reference -/
theorem rleast_l0 {n : Nat} (hn : 2 ≤ n) (h2 : n ≤ 2147483647) : ∀ (f d : Nat), 2 ≤ d → d ≤ 2147483648 → n < d + f → NoDiv n d → Ev (fun k => codewrightref03_Least.l0 k (n : Int) (d : Int)) ((ldiv n : Nat) : Int) := by
  intro f
  induction f with
  | zero => intro d _ _ hf h; exact absurd (Nat.mod_self n) (h n hn (by omega))
  | succ f ih =>
    intro d hd hdb hf h
    have hm : d * d ≤ 2147483648 * 2147483648 := Nat.mul_le_mul hdb hdb
    refine Ev.step (fun k => codewrightref03_Least.l0.eq_2 ..) ?_
    rw [← Int.natCast_mul, w64n (by omega)]
    by_cases h1 : d * d ≤ n
    · have hdn : d ≤ n := Nat.le_trans (Nat.le_mul_of_pos_left d (by omega)) h1
      refine ev_yes (by omega) (ev_no (by omega) ?_)
      rw [nat_tmod]
      by_cases h0 : n % d = 0
      · refine ev_yes (by omega) ?_
        have := ldiv_eq hn ⟨hd, h0, h⟩
        rw [this]; exact Ev.now _
      · refine ev_no (by omega) ?_
        rw [w64 (by omega) (by omega)]
        exact ih (d + 1) (by omega) (by omega) (by omega) fun e he hlt => by
          rcases Nat.lt_or_ge e d with h3 | h3
          · exact h e he h3
          · obtain rfl : e = d := by omega
            exact h0
    · refine ev_no (by omega) ?_
      rw [ldiv_eq hn (least_self hn (by omega) h)]
      exact Ev.now _
theorem rleast_ev {n : Nat} (hn : 2 ≤ n) (h2 : n ≤ 2147483647) : Ev (fun k => codewrightref03_Least.f k (n : Int)) ((ldiv n : Nat) : Int) := by
  unfold codewrightref03_Least.f
  exact rleast_l0 hn h2 n 2 (Nat.le_refl _) (by omega) (by omega) (fun e he hlt => by omega)

theorem rfactor_l1 {R : List S29 × Int} {p : Nat} (hp : 2 ≤ p) : ∀ (f n e : Nat) (acc : List S29), 1 ≤ n → n ≤ f → n ≤ 2147483647 → e + n ≤ 4294967296 → acc.length < 8796093022208 →
    Ev (fun k => codewrightref03_Factor.l0 k ((rest p f n : Nat) : Int) (acc ++ [toS (p, e + mult p f n)])) R →
    Ev (fun k => codewrightref03_Factor.l1 k (n : Int) acc (p : Int) (e : Int)) R := by
  intro f
  induction f with
  | zero => intro n e acc h1 h2; omega
  | succ f ih =>
    intro n e acc h1 h2 h3 h4 h5 H
    refine Ev.step (fun k => codewrightref03_Factor.l1.eq_2 ..) ?_
    refine ev_no (by omega) ?_
    unfold rest mult at H
    by_cases h : n % p = 0
    · refine ev_yes (by rw [nat_tmod, h]; rfl) ?_
      rw [if_pos h, if_pos h] at H
      have hlt := div_lt_self h1 hp
      have hpos : 1 ≤ n / p := Nat.div_pos (Nat.le_of_dvd h1 (Nat.dvd_of_mod_eq_zero h)) (by omega)
      rw [nat_tdiv, w64 (by omega) (by omega), w64 (by omega) (by omega)]
      have := ih (n / p) (e + 1) acc hpos (by omega) (by omega) (by omega) h5 (by
        rw [show e + 1 + mult p f (n / p) = e + (mult p f (n / p) + 1) by omega]; exact H)
      exact this
    · refine ev_no (by rw [nat_tmod]; omega) ?_
      refine ev_yes h5 ?_
      rw [if_neg h, if_neg h] at H
      exact H
theorem rfactor_l0 : ∀ (f n : Nat) (acc : List S29), 1 ≤ n → n ≤ f → n ≤ 2147483647 → acc.length + n ≤ 4294967296 →
    Ev (fun k => codewrightref03_Factor.l0 k (n : Int) acc) (acc ++ (facs f n).map toS, 0) := by
  intro f
  induction f with
  | zero => intro n acc h1 h2; omega
  | succ f ih =>
    intro n acc h1 h2 h3 h4
    refine Ev.step (fun k => codewrightref03_Factor.l0.eq_2 ..) ?_
    unfold facs
    by_cases h : n ≤ 1
    · rw [if_pos h]
      refine ev_no (by omega) ?_
      simp only [List.map_nil, List.append_nil]
      exact Ev.now _
    · rw [if_neg h]
      have hn : 2 ≤ n := by omega
      obtain ⟨k1, k2⟩ := rest_lt hn
      refine ev_yes (by omega) (Ev.bind (rleast_ev hn h3) ?_)
      have := rfactor_l1 (R := (acc ++ ((ldiv n, mult (ldiv n) n n) :: facs f (rest (ldiv n) n n)).map toS, 0)) (ldiv_least hn).two n n 0 acc h1 (Nat.le_refl _) h3 (by omega) (by omega) (by
        have h6 := ih (rest (ldiv n) n n) (acc ++ [toS (ldiv n, 0 + mult (ldiv n) n n)]) k1 (by omega) (by omega) (by simp; omega)
        refine ev_eq h6 ?_
        simp)
      exact this
theorem rfactor_ev {n : Nat} (h1 : 1 ≤ n) (h2 : n ≤ 2147483647) : Ev (fun k => codewrightref03_Factor.f k (n : Int)) ((facl n).map toS, 0) := by
  unfold codewrightref03_Factor.f
  refine ev_let (rin_yes (by omega) (by omega)) (ev_yes rfl ?_)
  have := rfactor_l0 n n [] h1 (Nat.le_refl _) h2 (by simp; omega)
  simpa [facl] using this
theorem rfactor_out {a : Int} (h : a < 1 ∨ 2147483647 < a) : Ev (fun k => codewrightref03_Factor.f k a) ([], 6) := by
  unfold codewrightref03_Factor.f
  exact ev_let (rin_no h) (ev_no (by simp) (Ev.now _))
end Go.Proofs.Ytnppfagghpjkpaa.Num
