/- What both Phi answer; the reference's Least, Factor. -/
import Derived.Test.YtnppfagghpjkpaaE2
import Derived.Test.YtnppfagghpjkpaaT4
import Derived.Test.YtnppfagghpjkpaaNumx2
import Derived.Test.YtnppfagghpjkpaaNumx9
namespace Go.Proofs.Ytnppfagghpjkpaa.Num
set_option linter.unusedVariables false
open Go.RowKit Go.Proofs.YtnppfagghpjkpaaW.PrintWords

theorem rd_fac (A B : List (Nat × Nat)) (x : Nat × Nat) : rd_T29 ((A ++ x :: B).map toS) (A.length : Int) = toS x := by
  unfold rd_T29
  simp [List.getD_eq_getElem?_getD]

theorem pow_pred {p m : Nat} (hm : 1 ≤ m) : p ^ m = p * p ^ (m - 1) := by
  obtain ⟨k, rfl⟩ : ∃ k, m = k + 1 := ⟨m - 1, by omega⟩
  rw [Nat.pow_succ, Nat.mul_comm]; rfl
/-- One step of Euler's product. -/
theorem phi_step {C p m F : Nat} (hp : 2 ≤ p) (hm : 1 ≤ m) : C * (p ^ m * F) / p * (p - 1) = C * (p ^ (m - 1) * (p - 1)) * F ∧ C * (p ^ m * F) / p * (p - 1) ≤ C * (p ^ m * F) := by
  have e : C * (p ^ m * F) = p * (C * p ^ (m - 1) * F) := by
    rw [pow_pred hm]; ac_rfl
  have e2 : C * (p ^ m * F) / p = C * p ^ (m - 1) * F := by rw [e]; exact Nat.mul_div_cancel_left _ (by omega)
  rw [e2]
  refine ⟨by ac_rfl, ?_⟩
  rw [e, Nat.mul_comm]
  exact Nat.mul_le_mul_right _ (by omega)

theorem phi_l0 {L : List (Nat × Nat)} (hl : ∀ x ∈ L, Pr x.1 ∧ 1 ≤ x.2) (hlen : L.length ≤ 1000) (hb : ∀ x ∈ L, x.1 ≤ 2147483647) : ∀ (B A : List (Nat × Nat)) (C : Nat), A ++ B = L → C * fprod B ≤ 2147483647 →
    Ev (fun k => number_Phi.l0 k ((C * fprod B : Nat) : Int) (L.map toS) ((L.map toS).length : Int) (A.length : Int)) (((C * phis B : Nat) : Int), 0) := by
  intro B
  induction B with
  | nil =>
    intro A C hA hC
    have hla : A.length = L.length := by rw [← hA]; simp
    refine Ev.step (fun k => number_Phi.l0.eq_2 ..) (ev_no (by simp; omega) ?_)
    exact Ev.now _
  | cons x B ih =>
    intro A C hA hC
    have hla : A.length + (B.length + 1) = L.length := by rw [← hA]; simp
    have hx := hl x (by rw [← hA]; simp)
    have hb' := hb x (by rw [← hA]; simp)
    have h2 := hx.1.two
    have hr : rd_T29 (L.map toS) (A.length : Int) = toS x := by rw [← hA]; exact rd_fac A B x
    obtain ⟨s1, s2⟩ := phi_step (C := C) (F := fprod B) h2 hx.2
    have s3 : C * (x.1 ^ x.2 * fprod B) / x.1 ≤ C * (x.1 ^ x.2 * fprod B) := Nat.div_le_self ..
    simp only [fprod] at hC ⊢
    refine Ev.step (fun k => number_Phi.l0.eq_2 ..) (ev_yes (by simp; omega) (ev_yes (by omega) (ev_yes (by simp; omega) ?_)))
    rw [hr]
    show Ev (fun k => if ((x.1 : Nat) : Int) = 0 then _ else number_Phi.l0 k (wrap64 (wrap64 (Int.tdiv _ ((x.1 : Nat) : Int)) * wrap64 (((x.1 : Nat) : Int) - 1))) _ _ _) _
    refine ev_no (by omega) ?_
    rw [nat_tdiv, w64n (m := C * (x.1 ^ x.2 * fprod B) / x.1) (by omega), w64 (x := (x.1 : Int) - 1) (by omega) (by omega), show ((x.1 : Int) - 1) = ((x.1 - 1 : Nat) : Int) by omega, ← Int.natCast_mul, w64n (by omega), s1,
      w64 (x := (A.length : Int) + 1) (by omega) (by omega)]
    have := ih (A ++ [x]) (C * (x.1 ^ (x.2 - 1) * (x.1 - 1))) (by rw [← hA]; simp) (by omega)
    simp only [phis]
    rw [show C * (x.1 ^ (x.2 - 1) * (x.1 - 1) * phis B) = C * (x.1 ^ (x.2 - 1) * (x.1 - 1)) * phis B by ac_rfl]
    simpa using this
theorem phi_ev {n : Nat} (h1 : 1 ≤ n) (h2 : n ≤ 2147483647) : Ev (fun k => number_Phi.f k (n : Int)) (((phis (facl n) : Nat) : Int), 0) := by
  have hf := facl_fac h1
  unfold number_Phi.f
  refine Ev.bind (factor_ev h1 h2) (ev_yes rfl ?_)
  have hp := hf.prod
  have := phi_l0 hf.prime (by have := hf.len h2; omega) (fun x hx => by have := hf.le x hx h1; omega) (facl n) [] 1 rfl (by omega)
  rw [hp, Nat.one_mul, Nat.one_mul] at this
  exact this
theorem phi_out {a : Int} (h : a < 1 ∨ 2147483647 < a) : Ev (fun k => number_Phi.f k a) (0, 6) := by
  unfold number_Phi.f
  exact Ev.bind (factor_out h) (ev_no (by simp) (Ev.now _))

/-! the reference -/
theorem rleast_l0 {n : Nat} (hn : 2 ≤ n) (h2 : n ≤ 2147483647) : ∀ (f d : Nat), 2 ≤ d → d ≤ 2147483648 → n < d + f → NoDiv n d → Ev (fun k => codewrightref03_Least.l0 k (n : Int) (d : Int)) ((ldiv n : Nat) : Int) := by
  intro f
  induction f with
  | zero => intro d _ _ hf h; exact absurd (Nat.mod_self n) (h n hn (by omega))
  | succ f ih =>
    intro d hd hdb hf h
    have hm : d * d ≤ 2147483648 * 2147483648 := Nat.mul_le_mul hdb hdb
    refine Ev.step (fun k => codewrightref03_Least.l0.eq_2 ..) ?_
    rw [← Int.natCast_mul, w64n (by omega)]
    by_cases h1 : d * d ≤ n
    · have hdn : d ≤ n := Nat.le_trans (Nat.le_mul_of_pos_left d (by omega)) h1
      refine ev_yes (by omega) (ev_no (by omega) ?_)
      rw [nat_tmod]
      by_cases h0 : n % d = 0
      · refine ev_yes (by omega) ?_
        have := ldiv_eq hn ⟨hd, h0, h⟩
        rw [this]; exact Ev.now _
      · refine ev_no (by omega) ?_
        rw [w64 (by omega) (by omega)]
        exact ih (d + 1) (by omega) (by omega) (by omega) fun e he hlt => by
          rcases Nat.lt_or_ge e d with h3 | h3
          · exact h e he h3
          · obtain rfl : e = d := by omega
            exact h0
    · refine ev_no (by omega) ?_
      rw [ldiv_eq hn (least_self hn (by omega) h)]
      exact Ev.now _
theorem rleast_ev {n : Nat} (hn : 2 ≤ n) (h2 : n ≤ 2147483647) : Ev (fun k => codewrightref03_Least.f k (n : Int)) ((ldiv n : Nat) : Int) := by
  unfold codewrightref03_Least.f
  exact rleast_l0 hn h2 n 2 (Nat.le_refl _) (by omega) (by omega) (fun e he hlt => by omega)

theorem rfactor_l1 {R : List S29 × Int} {p : Nat} (hp : 2 ≤ p) : ∀ (f n e : Nat) (acc : List S29), 1 ≤ n → n ≤ f → n ≤ 2147483647 → e + n ≤ 4294967296 → acc.length < 8796093022208 →
    Ev (fun k => codewrightref03_Factor.l0 k ((rest p f n : Nat) : Int) (acc ++ [toS (p, e + mult p f n)])) R →
    Ev (fun k => codewrightref03_Factor.l1 k (n : Int) acc (p : Int) (e : Int)) R := by
  intro f
  induction f with
  | zero => intro n e acc h1 h2; omega
  | succ f ih =>
    intro n e acc h1 h2 h3 h4 h5 H
    refine Ev.step (fun k => codewrightref03_Factor.l1.eq_2 ..) ?_
    refine ev_no (by omega) ?_
    unfold rest mult at H
    by_cases h : n % p = 0
    · refine ev_yes (by rw [nat_tmod, h]; rfl) ?_
      rw [if_pos h, if_pos h] at H
      have hlt := div_lt_self h1 hp
      have hpos : 1 ≤ n / p := Nat.div_pos (Nat.le_of_dvd h1 (Nat.dvd_of_mod_eq_zero h)) (by omega)
      rw [nat_tdiv, w64 (by omega) (by omega), w64 (by omega) (by omega)]
      have := ih (n / p) (e + 1) acc hpos (by omega) (by omega) (by omega) h5 (by
        rw [show e + 1 + mult p f (n / p) = e + (mult p f (n / p) + 1) by omega]; exact H)
      exact this
    · refine ev_no (by rw [nat_tmod]; omega) ?_
      refine ev_yes h5 ?_
      rw [if_neg h, if_neg h] at H
      exact H
theorem rfactor_l0 : ∀ (f n : Nat) (acc : List S29), 1 ≤ n → n ≤ f → n ≤ 2147483647 → acc.length + n ≤ 4294967296 →
    Ev (fun k => codewrightref03_Factor.l0 k (n : Int) acc) (acc ++ (facs f n).map toS, 0) := by
  intro f
  induction f with
  | zero => intro n acc h1 h2; omega
  | succ f ih =>
    intro n acc h1 h2 h3 h4
    refine Ev.step (fun k => codewrightref03_Factor.l0.eq_2 ..) ?_
    unfold facs
    by_cases h : n ≤ 1
    · rw [if_pos h]
      refine ev_no (by omega) ?_
      simp only [List.map_nil, List.append_nil]
      exact Ev.now _
    · rw [if_neg h]
      have hn : 2 ≤ n := by omega
      obtain ⟨k1, k2⟩ := rest_lt hn
      refine ev_yes (by omega) (Ev.bind (rleast_ev hn h3) ?_)
      have := rfactor_l1 (R := (acc ++ ((ldiv n, mult (ldiv n) n n) :: facs f (rest (ldiv n) n n)).map toS, 0)) (ldiv_least hn).two n n 0 acc h1 (Nat.le_refl _) h3 (by omega) (by omega) (by
        have h6 := ih (rest (ldiv n) n n) (acc ++ [toS (ldiv n, 0 + mult (ldiv n) n n)]) k1 (by omega) (by omega) (by simp; omega)
        refine ev_eq h6 ?_
        simp)
      exact this
theorem rfactor_ev {n : Nat} (h1 : 1 ≤ n) (h2 : n ≤ 2147483647) : Ev (fun k => codewrightref03_Factor.f k (n : Int)) ((facl n).map toS, 0) := by
  unfold codewrightref03_Factor.f
  refine ev_let (rin_yes (by omega) (by omega)) (ev_yes rfl ?_)
  have := rfactor_l0 n n [] h1 (Nat.le_refl _) h2 (by simp; omega)
  simpa [facl] using this
theorem rfactor_out {a : Int} (h : a < 1 ∨ 2147483647 < a) : Ev (fun k => codewrightref03_Factor.f k a) ([], 6) := by
  unfold codewrightref03_Factor.f
  exact ev_let (rin_no h) (ev_no (by simp) (Ev.now _))
theorem rphi_l0 {L : List (Nat × Nat)} (hl : ∀ x ∈ L, Pr x.1 ∧ 1 ≤ x.2) (hlen : L.length ≤ 1000) (hb : ∀ x ∈ L, x.1 ≤ 2147483647) : ∀ (B A : List (Nat × Nat)) (C : Nat), A ++ B = L → C * fprod B ≤ 2147483647 →
    Ev (fun k => codewrightref03_Phi.l0 k ((C * fprod B : Nat) : Int) (L.map toS) (A.length : Int)) (((C * phis B : Nat) : Int), 0) := by
  intro B
  induction B with
  | nil =>
    intro A C hA hC
    have hla : A.length = L.length := by rw [← hA]; simp
    refine Ev.step (fun k => codewrightref03_Phi.l0.eq_2 ..) (ev_no (by simp; omega) ?_)
    exact Ev.now _
  | cons x B ih =>
    intro A C hA hC
    have hla : A.length + (B.length + 1) = L.length := by rw [← hA]; simp
    have hx := hl x (by rw [← hA]; simp)
    have hb' := hb x (by rw [← hA]; simp)
    have h2 := hx.1.two
    have hr : rd_T29 (L.map toS) (A.length : Int) = toS x := by rw [← hA]; exact rd_fac A B x
    obtain ⟨s1, s2⟩ := phi_step (C := C) (F := fprod B) h2 hx.2
    have s3 : C * (x.1 ^ x.2 * fprod B) / x.1 ≤ C * (x.1 ^ x.2 * fprod B) := Nat.div_le_self ..
    simp only [fprod] at hC ⊢
    refine Ev.step (fun k => codewrightref03_Phi.l0.eq_2 ..) (ev_yes (by simp; omega) (ev_yes (by omega) ?_))
    rw [hr]
    show Ev (fun k => if ((x.1 : Nat) : Int) = 0 then _ else codewrightref03_Phi.l0 k (wrap64 (wrap64 (Int.tdiv _ ((x.1 : Nat) : Int)) * wrap64 (((x.1 : Nat) : Int) - 1))) _ _) _
    refine ev_no (by omega) ?_
    rw [nat_tdiv, w64n (m := C * (x.1 ^ x.2 * fprod B) / x.1) (by omega), w64 (x := (x.1 : Int) - 1) (by omega) (by omega), show ((x.1 : Int) - 1) = ((x.1 - 1 : Nat) : Int) by omega, ← Int.natCast_mul, w64n (by omega), s1,
      w64 (x := (A.length : Int) + 1) (by omega) (by omega)]
    have := ih (A ++ [x]) (C * (x.1 ^ (x.2 - 1) * (x.1 - 1))) (by rw [← hA]; simp) (by omega)
    simp only [phis]
    rw [show C * (x.1 ^ (x.2 - 1) * (x.1 - 1) * phis B) = C * (x.1 ^ (x.2 - 1) * (x.1 - 1)) * phis B by ac_rfl]
    simpa using this
theorem rphi_ev {n : Nat} (h1 : 1 ≤ n) (h2 : n ≤ 2147483647) : Ev (fun k => codewrightref03_Phi.f k (n : Int)) (((phis (facl n) : Nat) : Int), 0) := by
  have hf := facl_fac h1
  unfold codewrightref03_Phi.f
  refine Ev.bind (rfactor_ev h1 h2) (ev_yes rfl ?_)
  have hp := hf.prod
  have := rphi_l0 hf.prime (by have := hf.len h2; omega) (fun x hx => by have := hf.le x hx h1; omega) (facl n) [] 1 rfl (by omega)
  rw [hp, Nat.one_mul, Nat.one_mul] at this
  exact this
theorem rphi_out {a : Int} (h : a < 1 ∨ 2147483647 < a) : Ev (fun k => codewrightref03_Phi.f k a) (0, 6) := by
  unfold codewrightref03_Phi.f
  exact Ev.bind (rfactor_out h) (ev_no (by simp) (Ev.now _))
end Go.Proofs.Ytnppfagghpjkpaa.Num
