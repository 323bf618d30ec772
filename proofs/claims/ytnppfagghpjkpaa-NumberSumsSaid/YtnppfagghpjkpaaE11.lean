/- What both Order answer; the reference's Divisors. -/
import Derived.Test.YtnppfagghpjkpaaE10
import Derived.Test.YtnppfagghpjkpaaT5
import Derived.Test.YtnppfagghpjkpaaNumx3
import Derived.Test.YtnppfagghpjkpaaNumx9
namespace Go.Proofs.Ytnppfagghpjkpaa.Num
set_option linter.unusedVariables false
open Go.RowKit Go.Proofs.YtnppfagghpjkpaaW.PrintWords

def ints (L : List Nat) : List Int := L.map fun x : Nat => (x : Int)
theorem ints_append (A B : List Nat) : ints (A ++ B) = ints A ++ ints B := by simp [ints]
theorem ints_length (A : List Nat) : (ints A).length = A.length := by simp [ints]
theorem rd_ints (A B : List Nat) (x : Nat) : rd (ints (A ++ x :: B)) (A.length : Int) = (x : Int) := by
  unfold rd ints
  simp [List.getD_eq_getElem?_getD]

theorem rdivs_l1 {lo : List Nat} : ∀ (m : Nat) (A B acc : List Nat), A.length = m → m ≤ 4294967296 → acc.length + m ≤ 8589934592 →
    Ev (fun k => codewrightref03_Divisors.l1 k (ints acc) (ints (A ++ B)) ((A.length : Int) - 1)) (ints (acc ++ A.reverse), 0) := by
  intro m
  induction m with
  | zero =>
    intro A B acc hA hm hl
    obtain rfl : A = [] := List.length_eq_zero_iff.1 hA
    refine Ev.step (fun k => codewrightref03_Divisors.l1.eq_2 ..) (ev_no (by simp) ?_)
    simp only [List.reverse_nil, List.append_nil]
    exact Ev.now _
  | succ m ih =>
    intro A B acc hA hm hl
    obtain ⟨A', x, rfl⟩ : ∃ A' x, A = A' ++ [x] := ⟨A.dropLast, A.getLast (by intro h; simp [h] at hA), (List.dropLast_concat_getLast _).symm⟩
    have hA' : A'.length = m := by simpa using hA
    refine Ev.step (fun k => codewrightref03_Divisors.l1.eq_2 ..) ?_
    have e : (((A' ++ [x]).length : Nat) : Int) - 1 = (A'.length : Int) := by simp
    rw [e, List.append_assoc, List.singleton_append, rd_ints, ints_length, ints_length]
    refine ev_yes (by omega) (ev_yes (by omega) (ev_yes (by simp; omega) (ev_yes (by omega) ?_)))
    rw [w64 (by omega) (by omega)]
    have := ih A' (x :: B) (acc ++ [x]) hA' (by omega) (by simp; omega)
    rw [ints_append] at this
    refine ev_eq this ?_
    simp
theorem rdivs_l0 {N : Nat} (hN : 1 ≤ N) (hN2 : N ≤ 2147483647) : ∀ (f d : Nat) (lo hi : List Nat), N + 1 < d + f → d ≤ N + 1 → DInv N d lo hi →
    ∃ L, IsDivs N L ∧ Ev (fun k => codewrightref03_Divisors.l0 k (N : Int) (ints lo) (ints hi) (d : Int)) (ints L, 0) := by
  intro f
  induction f with
  | zero => intro d lo hi h1 h2; omega
  | succ f ih =>
    intro d lo hi h1 h2 I
    have hd1 := I.one
    have hl1 := I.llen
    have hl2 := I.hlen
    have hm : d * d ≤ 2147483648 * 2147483648 := Nat.mul_le_mul (by omega) (by omega)
    by_cases hc : d * d ≤ N
    · have hdn : d ≤ N := Nat.le_trans (Nat.le_mul_of_pos_left d (by omega)) hc
      have hstep : ∀ {R}, Ev (fun k => if (Int.tmod (N : Int) (d : Int)) = 0 then (if (ints lo).length < 17592186044416 then ((some (ints lo ++ [(d : Int)] : List Int)).bind fun y190 => (if (d : Int) = (wrap64 (Int.tdiv (N : Int) (d : Int))) then (codewrightref03_Divisors.l0 k (N : Int) y190 (ints hi) (wrap64 ((d : Int) + 1))) else (if (ints hi).length < 17592186044416 then (codewrightref03_Divisors.l0 k (N : Int) y190 (ints hi ++ [wrap64 (Int.tdiv (N : Int) (d : Int))]) (wrap64 ((d : Int) + 1))) else (none)))) else (none)) else (codewrightref03_Divisors.l0 k (N : Int) (ints lo) (ints hi) (wrap64 ((d : Int) + 1)))) R → Ev (fun k => codewrightref03_Divisors.l0 k (N : Int) (ints lo) (ints hi) (d : Int)) R := by
        intro R H
        refine Ev.step (fun k => codewrightref03_Divisors.l0.eq_2 ..) ?_
        rw [← Int.natCast_mul, w64n (by omega)]
        exact ev_yes (by omega) (ev_no (by omega) H)
      have hw : wrap64 ((d : Int) + 1) = ((d + 1 : Nat) : Int) := w64 (by omega) (by omega)
      have hq : N / d ≤ N := Nat.div_le_self ..
      have hwq : wrap64 (Int.tdiv (N : Int) (d : Int)) = ((N / d : Nat) : Int) := by rw [nat_tdiv]; exact w64n (by omega)
      by_cases h0 : d ∣ N
      · obtain ⟨L, hL, he⟩ := ih (d + 1) _ _ (by omega) (by omega) (I.hit hN hc h0)
        refine ⟨L, hL, hstep ?_⟩
        refine ev_yes (by rw [nat_tmod, Nat.mod_eq_zero_of_dvd h0]; rfl) (ev_yes (by rw [ints_length]; omega) (ev_let rfl ?_))
        rw [hw, hwq]
        by_cases h3 : d = N / d
        · rw [if_pos h3] at he
          refine ev_yes (by omega) ?_
          simpa [ints] using he
        · rw [if_neg h3] at he
          refine ev_no (by omega) (ev_yes (by rw [ints_length]; omega) ?_)
          simpa [ints] using he
      · obtain ⟨L, hL, he⟩ := ih (d + 1) _ _ (by omega) (by omega) (I.skip hN hc h0)
        refine ⟨L, hL, hstep ?_⟩
        refine ev_no (by rw [nat_tmod]; have := fun h => h0 (Nat.dvd_of_mod_eq_zero h); omega) ?_
        rw [hw]; exact he
    · refine ⟨_, I.done hN hc, ?_⟩
      refine Ev.step (fun k => codewrightref03_Divisors.l0.eq_2 ..) ?_
      rw [← Int.natCast_mul, w64n (by omega)]
      refine ev_no (by omega) ?_
      rw [ints_length, w64 (by omega) (by omega)]
      have := rdivs_l1 (lo := lo) hi.length hi [] lo rfl (by omega) (by omega)
      rw [List.append_nil] at this
      exact this
theorem rdivs_ev {N : Nat} (hN : 1 ≤ N) (hN2 : N ≤ 2147483647) : ∃ L, IsDivs N L ∧ Ev (fun k => codewrightref03_Divisors.f k (N : Int)) (ints L, 0) := by
  obtain ⟨L, hL, he⟩ := rdivs_l0 hN hN2 (N + 2) 1 [] [] (by omega) (by omega) (DInv.start N)
  refine ⟨L, hL, ?_⟩
  unfold codewrightref03_Divisors.f
  exact ev_let (rin_yes (by omega) (by omega)) (ev_yes rfl he)
theorem rdivs_out {a : Int} (h : a < 1 ∨ 2147483647 < a) : Ev (fun k => codewrightref03_Divisors.f k a) ([], 6) := by
  unfold codewrightref03_Divisors.f
  exact ev_let (rin_no h) (ev_no (by simp) (Ev.now _))

/-! ### the order -/
theorem pow_one_iff {a n : Int} {e : Nat} : a ^ e % n = 1 % n ↔ n ∣ (a % n) ^ e - 1 := by
  rw [dvd_sub_iff, emod_pow_self]

theorem rorder_l0 {a n : Int} (hn : 1 ≤ n) (hn2 : n ≤ 2147483647) (R : Int × Int) : ∀ (B A : List Nat), (A ++ B).length ≤ 4294967296 → (∀ x ∈ B, x ≤ 2147483647) →
    (∀ (C D : List Nat) (x : Nat), B = C ++ x :: D → (∀ y ∈ C, ¬ n ∣ (a % n) ^ y - 1) → n ∣ (a % n) ^ x - 1 → R = ((x : Int), 0)) → ((∀ y ∈ B, ¬ n ∣ (a % n) ^ y - 1) → R = (0, 11)) →
    Ev (fun k => codewrightref03_Order.l0 k a n (ints (A ++ B)) (A.length : Int)) R := by
  intro B
  induction B with
  | nil =>
    intro A hA hB h1 h2
    refine Ev.step (fun k => codewrightref03_Order.l0.eq_2 ..) (ev_no (by simp [ints_length]) ?_)
    rw [h2 (by simp)]
    exact Ev.now _
  | cons x B ih =>
    intro A hA hB h1 h2
    have hx := hB x (by simp)
    simp at hA
    refine Ev.step (fun k => codewrightref03_Order.l0.eq_2 ..) (ev_yes (by rw [ints_length]; simp; omega) (ev_yes (by omega) ?_))
    rw [rd_ints]
    refine Ev.bind (rpower_ev a hn hn2 (e := (x : Int)) (by omega) (by omega)) (ev_let (Mod_some 1 hn hn2) ?_)
    rw [Int.toNat_natCast]
    by_cases h : n ∣ (a % n) ^ x - 1
    · refine ev_yes (pow_one_iff.2 h) ?_
      rw [h1 [] B x rfl (by simp) h]
      exact Ev.now _
    · refine ev_no (fun hc => h (pow_one_iff.1 hc)) ?_
      rw [w64 (by omega) (by omega)]
      have := ih (A ++ [x]) (by simp; omega) (fun y hy => hB y (by simp [hy])) (fun C D y hC hno hy => h1 (x :: C) D y (by simp [hC]) (fun z hz => by
        rcases List.mem_cons.1 hz with rfl | hz
        · exact h
        · exact hno z hz) hy) (fun hno => h2 fun z hz => by
        rcases List.mem_cons.1 hz with rfl | hz
        · exact h
        · exact hno z hz)
      simpa using this
theorem rorder_ev (a : Int) {n : Nat} (h1 : 1 ≤ n) (h2 : n ≤ 2147483647) :
    (∀ o, IsOrd (a % n) n o → o ∣ phis (facl n) → Ev (fun k => codewrightref03_Order.f k a (n : Int)) ((o : Int), 0)) ∧ ((∀ e, 1 ≤ e → ¬ (n : Int) ∣ (a % n) ^ e - 1) → Ev (fun k => codewrightref03_Order.f k a (n : Int)) (0, 11)) := by
  have hf := facl_fac h1
  have hp1 := phis_pos hf.prime
  have hp2 : phis (facl n) ≤ n := by have := phis_le hf.prime; rwa [hf.prod] at this
  obtain ⟨L, hL, he⟩ := rdivs_ev hp1 (show phis (facl n) ≤ 2147483647 by omega)
  have hmem : ∀ x ∈ L, 1 ≤ x ∧ x ≤ phis (facl n) := fun x hx => by
    obtain ⟨a1, a2⟩ := (hL.mem x).1 hx
    exact ⟨a1, Nat.le_of_dvd hp1 a2⟩
  have hlen : L.length ≤ 4294967296 := by
    have hb : ∀ (M : List Nat) (b c : Nat), M.Pairwise (· < ·) → (∀ x ∈ M, b ≤ x ∧ x < c) → M.length ≤ c - b := by
      intro M
      induction M with
      | nil => intros; simp
      | cons x M ih =>
        intro b c hp hx
        obtain ⟨q1, q2⟩ := List.pairwise_cons.1 hp
        have k := ih (x + 1) c q2 fun y hy => ⟨q1 y hy, (hx y (by simp [hy])).2⟩
        have k2 := hx x (by simp)
        simp only [List.length_cons]; omega
    have := hb L 0 2147483648 hL.asc fun x hx => by have := hmem x hx; omega
    omega
  have hrun : ∀ R, (∀ (C D : List Nat) (x : Nat), L = C ++ x :: D → (∀ y ∈ C, ¬ (n : Int) ∣ (a % n) ^ y - 1) → (n : Int) ∣ (a % n) ^ x - 1 → R = ((x : Int), 0)) → ((∀ y ∈ L, ¬ (n : Int) ∣ (a % n) ^ y - 1) → R = (0, 11)) → Ev (fun k => codewrightref03_Order.f k a (n : Int)) R := by
    intro R r1 r2
    unfold codewrightref03_Order.f
    refine Ev.bind (rphi_ev h1 h2) (ev_yes rfl (Ev.bind he ?_))
    have := rorder_l0 (a := a) (n := (n : Int)) (by omega) (by omega) R L [] (by simpa using hlen) (fun x hx => by have := hmem x hx; omega) r1 r2
    simpa using this
  constructor
  · intro o ho hd
    refine hrun _ (fun C D x hC hno hx => ?_) (fun hno => absurd ho.one (hno o ((hL.mem o).2 ⟨ho.pos, hd⟩)))
    have hxm := hmem x (by rw [hC]; simp)
    have k1 := ho.dvd hx
    have k2 := Nat.le_of_dvd (by omega) k1
    rcases Nat.lt_or_ge o x with h3 | h3
    · have ho' : o ∈ L := (hL.mem o).2 ⟨ho.pos, hd⟩
      rw [hC] at ho'
      have hasc := hL.asc
      rw [hC] at hasc
      obtain ⟨p1, p2, p3⟩ := List.pairwise_append.1 hasc
      rcases List.mem_append.1 ho' with h4 | h4
      · exact absurd ho.one (hno o h4)
      · rcases List.mem_cons.1 h4 with h5 | h5
        · rw [h5]
        · have := (List.pairwise_cons.1 p2).1 o h5; omega
    · have : o = x := by omega
      rw [this]
  · intro hno
    exact hrun _ (fun C D x hC _ hx => absurd hx (hno x (hmem x (by rw [hC]; simp)).1)) (fun _ => rfl)

theorem norder_l1 {a n : Int} (hn : 1 ≤ n) (hn2 : n ≤ 2147483647) (ha : 0 ≤ a) (han : a < n) {o N : Nat} (ho : ∀ e : Nat, n ∣ a ^ e - 1 ↔ o ∣ e) (hN : N ≤ 2147483647) (hN1 : 1 ≤ N) {A B : List (Nat × Nat)} {y : Nat × Nat} (hf : IsFac N (A ++ y :: B)) {R : Int × Int}
    (H : ∀ x : Nat, x ≤ N → OInv N o x (A ++ [y]) B → Ev (fun k => number_Order.l0 k a n (x : Int) ((A ++ y :: B).map toS) ((A ++ y :: B).length : Int) ((A.length + 1 : Nat) : Int)) R) :
    ∀ (m x j : Nat), j + m = y.2 → x ≤ N → PInv N o x j A B y →
      Ev (fun k => number_Order.l1 k a n (x : Int) ((A ++ y :: B).map toS) ((A ++ y :: B).length : Int) (A.length : Int) (y.2 : Int) (j : Int) (y.1 : Int) (y.2 : Int)) R := by
  have hy := hf.prime y (by simp)
  have hlen := hf.len hN
  have hexp := hf.exp_le y (by simp) hN1 hN
  simp at hlen
  have hw : wrap64 ((A.length : Int) + 1) = ((A.length + 1 : Nat) : Int) := w64 (by omega) (by omega)
  have hB : ∀ z ∈ B, Pr z.1 ∧ y.1 < z.1 := fun z hz => ⟨(hf.prime z (by simp [hz])).1, (List.pairwise_cons.1 (List.pairwise_append.1 hf.asc).2.1).1 z hz⟩
  intro m
  induction m with
  | zero =>
    intro x j hj hx I
    refine Ev.step (fun k => number_Order.l1.eq_2 ..) (ev_no (by omega) ?_)
    rw [hw]
    exact H x hx (I.last hf (by omega))
  | succ m ih =>
    intro x j hj hx I
    have h2 := hy.1.two
    have hq : x / y.1 ≤ x := Nat.div_le_self ..
    refine Ev.step (fun k => number_Order.l1.eq_2 ..) (ev_yes (by omega) (ev_no (by omega) ?_))
    rw [nat_tdiv, w64n (by omega)]
    refine Ev.bind (power_ev hn hn2 ha han (e := ((x / y.1 : Nat) : Int)) (Int.natCast_nonneg _) (by omega)) (ev_no (by omega) ?_)
    rw [Int.toNat_natCast]
    by_cases h : o ∣ x / y.1
    · refine ev_yes (dvd_sub_iff.1 ((ho _).2 h)) ?_
      rw [w64 (by omega) (by omega)]
      exact ih (x / y.1) (j + 1) (by omega) (by omega) (I.next hy.1 hB (by omega) h)
    · refine ev_no (fun hc => h ((ho _).1 (dvd_sub_iff.2 hc))) ?_
      rw [hw]
      exact H x hx (I.stop h2 h)
theorem norder_l0 {a n : Int} (hn : 1 ≤ n) (hn2 : n ≤ 2147483647) (ha : 0 ≤ a) (han : a < n) {o N : Nat} (ho : ∀ e : Nat, n ∣ a ^ e - 1 ↔ o ∣ e) (hN : N ≤ 2147483647) (hN1 : 1 ≤ N) {L : List (Nat × Nat)} (hf : IsFac N L) :
    ∀ (B A : List (Nat × Nat)) (x : Nat), A ++ B = L → x ≤ N → OInv N o x A B → Ev (fun k => number_Order.l0 k a n (x : Int) (L.map toS) (L.length : Int) (A.length : Int)) ((o : Int), 0) := by
  intro B
  induction B with
  | nil =>
    intro A x hA hx I
    obtain rfl : A = L := by simpa using hA
    refine Ev.step (fun k => number_Order.l0.eq_2 ..) (ev_no (by omega) ?_)
    rw [I.fin hN1 hf]
    exact Ev.now _
  | cons y B ih =>
    intro A x hA hx I
    subst hA
    refine Ev.step (fun k => number_Order.l0.eq_2 ..) (ev_yes (by simp; omega) (ev_yes (by omega) (ev_yes (by simp; omega) ?_)))
    rw [rd_fac]
    have := norder_l1 hn hn2 ha han ho hN hN1 hf (R := ((o : Int), 0)) (fun x' hx' I' => by
      have := ih (A ++ [y]) x' (by simp) hx' I'
      simpa using this) y.2 x 0 (by omega) hx I.open
    exact this
theorem norder_ev (a : Int) {n : Nat} (h1 : 1 ≤ n) (h2 : n ≤ 2147483647) :
    (∀ o, IsOrd (a % n) n o → Int.gcd (a % n) n = 1 → Ev (fun k => number_Order.f k a (n : Int)) ((o : Int), 0)) ∧ (Int.gcd (a % n) n ≠ 1 → Ev (fun k => number_Order.f k a (n : Int)) (0, 11)) := by
  have hf := facl_fac h1
  have hp1 := phis_pos hf.prime
  have hp2 : phis (facl n) ≤ n := by have := phis_le hf.prime; rwa [hf.prod] at this
  have m0 := Int.emod_nonneg a (show (n : Int) ≠ 0 by omega)
  have m1 := Int.emod_lt_of_pos a (show 0 < (n : Int) by omega)
  obtain ⟨b, hb⟩ : ∃ b : Nat, a % (n : Int) = (b : Int) := ⟨(a % (n : Int)).toNat, by omega⟩
  have hgc : Int.gcd (a % n) n = Nat.gcd b n := by rw [hb]; rfl
  rw [hgc]
  constructor
  · intro o ho hg
    unfold number_Order.f
    refine ev_let (in_yes (by omega) (by omega)) (ev_yes rfl (ev_let (mod_some a (by omega) (by omega)) ?_))
    rw [hb] at ho ⊢
    refine Ev.bind (gcd_ev b n) (ev_yes (by omega) (Ev.bind (phi_ev h1 h2) (Ev.bind (factor_ev hp1 (by omega)) ?_)))
    have he : (n : Int) ∣ (b : Int) ^ phis (facl n) - 1 := euler hf hg
    have := norder_l0 (a := (b : Int)) (n := (n : Int)) (by omega) (by omega) (by omega) (by omega) (fun e => ho.iff) (show phis (facl n) ≤ 2147483647 by omega) hp1 (facl_fac hp1) (facl (phis (facl n))) [] _ rfl (Nat.le_refl _) (OInv.start ho.pos (ho.dvd he) (facl_fac hp1))
    simpa using this
  · intro hg
    unfold number_Order.f
    refine ev_let (in_yes (by omega) (by omega)) (ev_yes rfl (ev_let (mod_some a (by omega) (by omega)) ?_))
    rw [hb]
    exact Ev.bind (gcd_ev b n) (ev_no (by omega) (Ev.now _))
theorem norder_out (a : Int) {n : Int} (h : n < 1 ∨ 2147483647 < n) : Ev (fun k => number_Order.f k a n) (0, 6) := by
  unfold number_Order.f
  exact ev_let (in1_no h) (ev_no (by simp) (Ev.now _))
theorem rorder_out (a : Int) {n : Int} (h : n < 1 ∨ 2147483647 < n) : Ev (fun k => codewrightref03_Order.f k a n) (0, 6) := by
  unfold codewrightref03_Order.f
  exact Ev.bind (rphi_out h) (ev_no (by simp) (Ev.now _))
/-- What both Order answer. -/
theorem Order_both (a : Int) {n : Nat} (h1 : 1 ≤ n) (h2 : n ≤ 2147483647) :
    (Int.gcd (a % n) n = 1 ∧ ∃ o, IsOrd (a % n) n o ∧ o ∣ phis (facl n) ∧ Ev (fun k => number_Order.f k a (n : Int)) ((o : Int), 0) ∧ Ev (fun k => codewrightref03_Order.f k a (n : Int)) ((o : Int), 0)) ∨
    (Int.gcd (a % n) n ≠ 1 ∧ Ev (fun k => number_Order.f k a (n : Int)) (0, 11) ∧ Ev (fun k => codewrightref03_Order.f k a (n : Int)) (0, 11)) := by
  have hf := facl_fac h1
  by_cases hg : Int.gcd (a % n) n = 1
  · left
    have he := euler hf hg
    obtain ⟨o, ho⟩ := ord_exists (phis_pos hf.prime) he
    exact ⟨hg, o, ho, ho.dvd he, (norder_ev a h1 h2).1 o ho hg, (rorder_ev a h1 h2).1 o ho (ho.dvd he)⟩
  · right
    exact ⟨hg, (norder_ev a h1 h2).2 hg, (rorder_ev a h1 h2).2 fun e he => no_pow hg he⟩
end Go.Proofs.Ytnppfagghpjkpaa.Num
