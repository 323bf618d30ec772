/- NumberSums: Phi counts; the sums over the divisors. -/
import Derived.Test.YtnppfagghpjkpaaE12
import Derived.Test.YtnppfagghpjkpaaNumx19
import Derived.Test.YtnppfagghpjkpaaNumx6
namespace Go.Proofs.Ytnppfagghpjkpaa.Pure
set_option linter.unusedVariables false
open Go.RowKit Go.Proofs.Ytnppfagghpjkpaa.Num Go.Proofs.YtnppfagghpjkpaaW.PrintWords

theorem moebius_l0 {L : List (Nat × Nat)} (hlen : L.length ≤ 1000) : ∀ (B A : List (Nat × Nat)) (s : Int), A ++ B = L → (s = 1 ∨ s = -1) → Ev (fun k => number_Moebius.l0 k s (L.map toS) ((L.map toS).length : Int) (A.length : Int)) (s * moeb B, 0) := by
  intro B
  induction B with
  | nil =>
    intro A s hA hs
    have hla : A.length = L.length := by rw [← hA]; simp
    refine Ev.step (fun k => number_Moebius.l0.eq_2 ..) (ev_no (by simp; omega) ?_)
    simp only [moeb, Int.mul_one]
    exact Ev.now _
  | cons x B ih =>
    intro A s hA hs
    have hla : A.length + (B.length + 1) = L.length := by rw [← hA]; simp
    have hr : rd_T29 (L.map toS) (A.length : Int) = toS x := by rw [← hA]; exact rd_fac A B x
    refine Ev.step (fun k => number_Moebius.l0.eq_2 ..) (ev_yes (by simp; omega) (ev_yes (by omega) (ev_yes (by simp; omega) ?_)))
    rw [hr]
    show Ev (fun k => if (x.2 : Int) > 1 then _ else _) _
    simp only [moeb]
    by_cases h : 1 < x.2
    · rw [if_pos h, Int.mul_zero]
      exact ev_yes (by omega) (Ev.now _)
    · rw [if_neg h]
      refine ev_no (by omega) ?_
      rw [w64 (x := -s) (by omega) (by omega), w64 (by omega) (by omega)]
      have := ih (A ++ [x]) (-s) (by rw [← hA]; simp) (by omega)
      rw [Int.neg_mul, ← Int.mul_neg] at this
      simpa using this
theorem moebius_ev {n : Nat} (h1 : 1 ≤ n) (h2 : n ≤ 2147483647) : Ev (fun k => number_Moebius.f k (n : Int)) (moeN n, 0) := by
  have hf := facl_fac h1
  unfold number_Moebius.f
  refine Ev.bind (factor_ev h1 h2) (ev_yes rfl ?_)
  have := moebius_l0 (L := facl n) (by have := hf.len h2; omega) (facl n) [] 1 rfl (.inl rfl)
  rw [Int.one_mul] at this
  exact this
theorem moeb_small : ∀ l, -1 ≤ moeb l ∧ moeb l ≤ 1 := by
  intro l
  induction l with
  | nil => simp [moeb]
  | cons x l ih => simp only [moeb]; split <;> omega

/-- The sums over the divisors, in the program's order. -/
theorem sums_l2 {n : Nat} (hn1 : 1 ≤ n) (hn : n ≤ 3000) {cnt : Int} {L : List Nat} (hL : IsDivs n L) (hlen : L.length ≤ 3000) (hc : cnt = phiN n) (hs : sm phiN L = n) (hm : sm moeN L = if n = 1 then 1 else 0) : ∀ (B A : List Nat) (p m : Int), A ++ B = L →
    p + sm phiN B = sm phiN L → m + sm moeN B = sm moeN L → 0 ≤ p → p ≤ 3000 * A.length → -A.length ≤ m → m ≤ A.length →
    Ev (fun k => codewrightlaw03_NumberSums.l2 k (n : Int) (phiN n) cnt p m (ints L) ((ints L).length : Int) (A.length : Int)) true := by
  intro B
  induction B with
  | nil =>
    intro A p m hA hp hmm hp0 hp1 hm0 hm1
    obtain rfl : A = L := by simpa using hA
    simp only [sm, Int.add_zero] at hp hmm
    rw [hp, hmm, hs, hm, hc]
    refine Ev.step (fun k => codewrightlaw03_NumberSums.l2.eq_2 ..) (ev_no (by rw [ints_length]; omega) ?_)
    by_cases h1 : n = 1
    · subst h1
      exact ev_yes rfl (ev_yes rfl (ev_yes rfl (Ev.now _)))
    · rw [if_neg h1]
      exact ev_no (by omega) (ev_yes rfl (ev_yes rfl (Ev.now _)))
  | cons x B ih =>
    intro A p m hA hp hmm hp0 hp1 hm0 hm1
    have hla : A.length + (B.length + 1) = L.length := by rw [← hA]; simp
    obtain ⟨x1, xd⟩ := (hL.mem x).1 (by rw [← hA]; simp)
    have xn := Nat.le_of_dvd hn1 xd
    have hf := facl_fac x1
    have hph : phis (facl x) ≤ x := by have := phis_le hf.prime; rwa [hf.prod] at this
    have hmo := moeb_small (facl x)
    refine Ev.step (fun k => codewrightlaw03_NumberSums.l2.eq_2 ..) (ev_yes (by rw [ints_length]; omega) (ev_yes (by omega) (ev_yes (by rw [ints_length]; omega) ?_)))
    have hr : rd (ints L) (A.length : Int) = (x : Int) := by rw [← hA]; exact rd_ints A B x
    rw [hr]
    refine ev_no (by omega) (ev_no (by omega) (ev_no (by omega) ?_))
    rw [nat_tmod, Nat.mod_eq_zero_of_dvd xd]
    refine Ev.step (fun k => codewrightlaw03_NumberSums.j4.eq_2 ..) (ev_no (by simp) ?_)
    refine Ev.bind (phi_ev x1 (by omega)) (Ev.bind (moebius_ev x1 (by omega)) (ev_yes rfl (ev_yes rfl ?_)))
    show Ev (fun k => codewrightlaw03_NumberSums.l2 k (n : Int) (phiN n) cnt (wrap64 (p + ((phis (facl x) : Nat) : Int))) (wrap64 (m + moeb (facl x))) (ints L) ((ints L).length : Int) (wrap64 ((A.length : Int) + 1))) true
    rw [w64 (x := p + _) (by omega) (by omega), w64 (x := m + _) (by omega) (by omega), w64 (by omega) (by omega)]
    simp only [sm] at hp hmm
    have := ih (A ++ [x]) (p + phiN x) (m + moeN x) (by rw [← hA]; simp) (by omega) (by omega) (by unfold phiN; omega) (by unfold phiN; simp; omega) (by unfold moeN; simp; omega) (by unfold moeN; simp; omega)
    have e : ((A ++ [x]).length : Int) = (A.length : Int) + 1 := by simp
    rw [e] at this
    exact this

/-- Euclid's algorithm within the count. -/
theorem sums_l1 {x3 x4 x8 x9 : Int} {l : List Int} {g : Nat}
    (H1 : g = 1 → Ev (fun k => codewrightlaw03_NumberSums.l0 k x3 x4 l (wrap64 (x8 + 1)) (wrap64 (x9 + 1))) true)
    (H2 : g ≠ 1 → Ev (fun k => codewrightlaw03_NumberSums.l0 k x3 x4 l x8 (wrap64 (x9 + 1))) true) :
    ∀ (m a b : Nat), b ≤ m → Nat.gcd a b = g → Ev (fun k => codewrightlaw03_NumberSums.l1 k x3 x4 l x8 x9 (a : Int) (b : Int)) true := by
  have hend : ∀ a : Nat, Nat.gcd a 0 = g → Ev (fun k => codewrightlaw03_NumberSums.l1 k x3 x4 l x8 x9 (a : Int) ((0 : Nat) : Int)) true := by
    intro a hg
    rw [Nat.gcd_zero_right] at hg
    refine Ev.step (fun k => codewrightlaw03_NumberSums.l1.eq_2 ..) (ev_yes rfl ?_)
    by_cases h : g = 1
    · exact ev_yes (by omega) (H1 h)
    · exact ev_no (by omega) (H2 h)
  intro m
  induction m with
  | zero =>
    intro a b hb hg
    obtain rfl : b = 0 := by omega
    exact hend a hg
  | succ m ih =>
    intro a b hb hg
    by_cases h0 : b = 0
    · subst h0; exact hend a hg
    · have hlt := Nat.mod_lt a (show b > 0 by omega)
      refine Ev.step (fun k => codewrightlaw03_NumberSums.l1.eq_2 ..) (ev_no (by omega) ?_)
      rw [nat_tmod]
      refine ih b (a % b) (by omega) ?_
      rw [← hg, Nat.gcd_comm b, ← Nat.gcd_rec, Nat.gcd_comm]
theorem sums_l0 {n : Nat} (hn : n ≤ 3000) {p : Int} {l : List Int} (H : Ev (fun k => codewrightlaw03_NumberSums.l2 k (n : Int) p ((cf (cop n) n : Nat) : Int) 0 0 l (l.length : Int) 0) true) : ∀ (m i : Nat), i + m = n → cf (cop n) i ≤ i →
    Ev (fun k => codewrightlaw03_NumberSums.l0 k (n : Int) p l ((cf (cop n) i : Nat) : Int) ((i + 1 : Nat) : Int)) true := by
  intro m
  induction m with
  | zero =>
    intro i hi hc
    obtain rfl : i = n := by omega
    exact Ev.step (fun k => codewrightlaw03_NumberSums.l0.eq_2 ..) (ev_no (by omega) H)
  | succ m ih =>
    intro i hi hc
    have hstep : cf (cop n) (i + 1) = cf (cop n) i + if cop n (i + 1) = true then 1 else 0 := rfl
    refine Ev.step (fun k => codewrightlaw03_NumberSums.l0.eq_2 ..) (ev_yes (by omega) ?_)
    refine sums_l1 (g := Nat.gcd (i + 1) n) (fun hg => ?_) (fun hg => ?_) n (i + 1) n (Nat.le_refl _) rfl
    · have hcop : cop n (i + 1) = true := by simp [cop, hg]
      rw [hcop] at hstep
      simp at hstep
      rw [w64 (by omega) (by omega), w64 (by omega) (by omega)]
      have := ih (i + 1) (by omega) (by omega)
      rw [hstep] at this
      exact this
    · have hcop : cop n (i + 1) = false := by simp [cop, hg]
      rw [hcop] at hstep
      simp at hstep
      rw [w64 (by omega) (by omega)]
      have := ih (i + 1) (by omega) (by omega)
      rw [hstep] at this
      exact this

theorem NumberSums : codewrightlaw03_NumberSums.Pure := by
  intro a0 h0
  obtain ⟨u1, u2⟩ := u16_bounds h0
  obtain ⟨n, hn, n1, n2⟩ : ∃ n : Nat, wrap64 ((Int.tmod (wrap64 (a0)) 3000) + 1) = (n : Int) ∧ 1 ≤ n ∧ n ≤ 3000 := by
    rw [w64 (x := a0) (by omega) (by omega), tmod_pos u1, w64 (by omega) (by omega)]
    exact ⟨(a0 % 3000 + 1).toNat, by omega, by omega, by omega⟩
  apply Ev.rounds
  unfold codewrightlaw03_NumberSums.f
  rw [hn]
  have hf := facl_fac n1
  obtain ⟨L, hL, hp, he⟩ := divs_ev (N := n) n1 (by omega)
  have hD := DL.all (A := []) (B := facl n) DL.start hf
  have hlen := dl_len hD n1 (Nat.le_refl n) (by omega)
  obtain ⟨s1, s2⟩ := sum_dvl (A := []) (B := facl n) DL.start (N := n) hf
  have hfac1 : facl 1 = [] := facl_eq ⟨rfl, by simp, by simp⟩
  have hs : sm phiN L = n := by
    rw [← sm_perm hp, s1, hf.prod]
    simp [sm, phiN, hfac1, phis]
  have hm : sm moeN L = if n = 1 then 1 else 0 := by
    rw [← sm_perm hp, s2]
    by_cases h1 : n = 1
    · subst h1; simp [hfac1, sm, moeN, moeb]
    · rw [if_neg h1, if_neg]
      intro hc
      have := hf.prod
      rw [hc] at this
      simp [fprod] at this
      omega
  refine ev_let rfl (ev_yes rfl (Ev.bind (phi_ev n1 (by omega)) (Ev.bind he (ev_yes rfl ?_))))
  refine Ev.step (fun k => codewrightlaw03_NumberSums.j0.eq_2 ..) (ev_no (by simp) ?_)
  have hcnt : ((cf (cop n) n : Nat) : Int) = phiN n := by rw [count_eq n1]; rfl
  have hl3 : L.length ≤ 3000 := by
    have hb : ∀ (M : List Nat) (b c : Nat), M.Pairwise (· < ·) → (∀ x ∈ M, b ≤ x ∧ x < c) → M.length ≤ c - b := by
      intro M
      induction M with
      | nil => intros; simp
      | cons x M ih =>
        intro b c hp hx
        obtain ⟨q1, q2⟩ := List.pairwise_cons.1 hp
        have k := ih (x + 1) c q2 fun y hy => ⟨q1 y hy, (hx y (by simp [hy])).2⟩
        have k2 := hx x (by simp)
        simp only [List.length_cons]; omega
    have := hb L 1 (n + 1) hL.asc fun x hx => by
      obtain ⟨a1, a2⟩ := (hL.mem x).1 hx
      have := Nat.le_of_dvd n1 a2
      omega
    omega
  have := sums_l2 n1 n2 (cnt := ((cf (cop n) n : Nat) : Int)) hL hl3 hcnt hs hm L [] 0 0 rfl (by omega) (by omega) (by omega) (by simp) (by simp) (by simp)
  exact sums_l0 n2 (p := phiN n) (l := ints L) this n 0 (by omega) (by simp [cf])
end Go.Proofs.Ytnppfagghpjkpaa.Pure
