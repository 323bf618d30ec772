/- NumberFactors: primality, prime powers, prime power form and divisors as specified. -/
import Derived.Test.YtnppfagghpjkpaaE12
import Derived.Test.YtnppfagghpjkpaaNumx17
import Derived.Test.YtnppfagghpjkpaaNumx18
import Derived.Test.YtnppfagghpjkpaaNumx6
namespace Go.Proofs.Ytnppfagghpjkpaa.Pure
set_option linter.unusedVariables false
open Go.RowKit Go.Proofs.Ytnppfagghpjkpaa.Num Go.Proofs.YtnppfagghpjkpaaW.PrintWords

theorem factor_same (a : Int) : ∃ l : List S29, ∃ e : Int, l.length ≤ 30 ∧ (e = 0 ∨ l = []) ∧ Ev (fun k => number_Factor.f k a) (l, e) ∧ Ev (fun k => codewrightref03_Factor.f k a) (l, e) := by
  by_cases h : 1 ≤ a ∧ a ≤ 2147483647
  · obtain ⟨n, rfl⟩ : ∃ n : Nat, a = (n : Int) := ⟨a.toNat, by omega⟩
    have hf := facl_fac (n := n) (by omega)
    exact ⟨_, _, by simpa using hf.len (by omega), .inl rfl, factor_ev (by omega) (by omega), rfactor_ev (by omega) (by omega)⟩
  · exact ⟨[], 6, by simp, .inr rfl, factor_out (by omega), rfactor_out (by omega)⟩
theorem divs_same (a : Int) : ∃ l : List Int, ∃ e : Int, l.length ≤ 4294967296 ∧ Ev (fun k => number_Divisors.f k a) (l, e) ∧ Ev (fun k => codewrightref03_Divisors.f k a) (l, e) := by
  by_cases h : 1 ≤ a ∧ a ≤ 2147483647
  · obtain ⟨n, rfl⟩ : ∃ n : Nat, a = (n : Int) := ⟨a.toNat, by omega⟩
    obtain ⟨L, hL, hp, he⟩ := divs_ev (N := n) (by omega) (by omega)
    obtain ⟨M, hM, he'⟩ := rdivs_ev (N := n) (by omega) (by omega)
    obtain rfl := hL.unique hM
    have hl := dl_len (DL.all (A := []) (B := facl n) DL.start (facl_fac (n := n) (by omega))) (by omega) (Nat.le_refl n) (by omega)
    exact ⟨_, _, by rw [ints_length, ← hp.length_eq]; omega, he, he'⟩
  · exact ⟨[], 6, by simp, divs_out (by omega), rdivs_out (by omega)⟩
theorem samePowers_refl {l : List S29} (hl : l.length ≤ 4294967296) : ∀ (m i : Nat), i + m = l.length → Ev (fun k => codewrightref03_SamePowers.l0 k l l (i : Int)) true := by
  intro m
  induction m with
  | zero =>
    intro i hi
    exact Ev.step (fun k => codewrightref03_SamePowers.l0.eq_2 ..) (ev_no (by omega) (Ev.now _))
  | succ m ih =>
    intro i hi
    refine Ev.step (fun k => codewrightref03_SamePowers.l0.eq_2 ..) (ev_yes (by omega) (ev_yes (by omega) (ev_yes (by omega) (ev_no (by simp) ?_))))
    rw [w64 (by omega) (by omega)]
    exact ih (i + 1) (by omega)
theorem same_refl {l : List Int} (hl : l.length ≤ 4294967296) : ∀ (m i : Nat), i + m = l.length → Ev (fun k => codewrightref03_Same.l0 k l l (i : Int)) true := by
  intro m
  induction m with
  | zero =>
    intro i hi
    exact Ev.step (fun k => codewrightref03_Same.l0.eq_2 ..) (ev_no (by omega) (Ev.now _))
  | succ m ih =>
    intro i hi
    refine Ev.step (fun k => codewrightref03_Same.l0.eq_2 ..) (ev_yes (by omega) (ev_yes (by omega) (ev_yes (by omega) (ev_yes rfl ?_))))
    rw [w64 (by omega) (by omega)]
    exact ih (i + 1) (by omega)
theorem primePower_same {a : Int} {l : List S29} {e : Int} (h1 : Ev (fun k => number_Factor.f k a) (l, e)) (h2 : Ev (fun k => codewrightref03_Factor.f k a) (l, e)) :
    ∃ R, Ev (fun k => number_PrimePower.f k a) R ∧ Ev (fun k => codewrightref03_PrimePower.f k a) R := by
  unfold number_PrimePower.f codewrightref03_PrimePower.f
  by_cases he : e = 0
  · by_cases hl : (l.length : Int) = 1
    · exact ⟨_, Ev.bind h1 (ev_yes he (ev_yes hl (ev_yes (by show 0 < (l.length : Int); omega) (Ev.now _)))), Ev.bind h2 (ev_yes he (ev_yes hl (ev_yes (by show 0 < (l.length : Int); omega) (Ev.now _))))⟩
    · exact ⟨_, Ev.bind h1 (ev_yes he (ev_no hl (Ev.now _))), Ev.bind h2 (ev_yes he (ev_no hl (Ev.now _)))⟩
  · exact ⟨_, Ev.bind h1 (ev_no he (Ev.now _)), Ev.bind h2 (ev_no he (Ev.now _))⟩
theorem prime_same (a : Int) : ∃ b, number_Prime.f a = some b ∧ Ev (fun k => codewrightref03_Prime.f k a) b := by
  by_cases h : 1 ≤ a ∧ a ≤ 2147483647
  · obtain ⟨n, rfl⟩ : ∃ n : Nat, a = (n : Int) := ⟨a.toNat, by omega⟩
    unfold codewrightref03_Prime.f
    by_cases h1 : n = 1
    · subst h1
      exact ⟨false, prime_out (by omega), ev_let (rin_yes (by omega) (by omega)) (ev_yes rfl (ev_no (by omega) (Ev.now _)))⟩
    · refine ⟨_, prime_in (by omega) (by omega), ev_let (rin_yes (by omega) (by omega)) (ev_yes rfl (ev_yes (by omega) (Ev.bind (rleast_ev (by omega) (by omega)) ?_)))⟩
      refine ev_const ?_
      congr 1
      rw [Bool.eq_iff_iff]; simp; omega
  · refine ⟨false, prime_out (by omega), ?_⟩
    unfold codewrightref03_Prime.f
    exact ev_let (rin_no (by omega)) (ev_no (by simp) (Ev.now _))

theorem NumberFactors : codewrightlaw03_NumberFactors.Pure := by
  intro a h
  obtain ⟨l, e, hl, _, f1, f2⟩ := factor_same a
  obtain ⟨R, p1, p2⟩ := primePower_same f1 f2
  obtain ⟨d, e2, hd, d1, d2⟩ := divs_same a
  obtain ⟨b, b1, b2⟩ := prime_same a
  have s1 : Ev (fun k => codewrightref03_SamePowers.f k l l) true := by
    unfold codewrightref03_SamePowers.f
    exact ev_yes rfl (samePowers_refl (by omega) l.length 0 (by omega))
  have s2 : Ev (fun k => codewrightref03_Same.f k d d) true := by
    unfold codewrightref03_Same.f
    exact ev_yes rfl (same_refl hd d.length 0 (by omega))
  apply Ev.rounds
  unfold codewrightlaw03_NumberFactors.f
  refine ev_let rfl (ev_yes rfl (Ev.bind f1 (Ev.bind f2 (Ev.bind p1 (Ev.bind p2 (Ev.bind d1 (Ev.bind d2 ?_)))))))
  refine ev_yes rfl (Ev.bind s1 (ev_yes rfl (ev_yes rfl (ev_yes rfl (ev_yes rfl (ev_yes rfl (Ev.bind s2 (ev_yes rfl (ev_let b1 (Ev.bind b2 ?_))))))))))
  rw [beq_self_eq_true]
  exact Ev.now _
end Go.Proofs.Ytnppfagghpjkpaa.Pure
