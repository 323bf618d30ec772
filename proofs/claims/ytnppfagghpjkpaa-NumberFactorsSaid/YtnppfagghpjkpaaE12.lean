/- What number.Divisors answers. -/
import Derived.Test.YtnppfagghpjkpaaE11a
import Derived.Test.YtnppfagghpjkpaaT6
import Derived.Test.YtnppfagghpjkpaaNumx17
namespace Go.Proofs.Ytnppfagghpjkpaa.Num
set_option linter.unusedVariables false
open Go.RowKit Go.Proofs.YtnppfagghpjkpaaW.PrintWords

theorem ints_take (D : List Nat) (k : Nat) : (ints D).take k = ints (D.take k) := by simp [ints, List.map_take]
/-- The innermost loop: the head's elements times q. -/
theorem divs_l2 {D : List Nat} {q N : Nat} (hN : N ≤ 2147483647) (hb : ∀ d ∈ D, d * q ≤ N) {l22 : List S29} {n23 x24 x31 x32 c0 c1 : Int} {R : List Int × Int} {Z : List Nat} (hZ : Z.length ≤ 100000000000) (hDl : D.length ≤ 4294967296)
    (H : Ev (fun k => number_Divisors.l1 k (ints (Z ++ D.map (· * q))) (D.length : Int) (q : Int) l22 n23 x24 x31 (wrap64 (x32 + 1)) c0 c1) R) :
    ∀ (B A : List Nat), A ++ B = D → Ev (fun k => number_Divisors.l2 k (ints (Z ++ A.map (· * q))) (D.length : Int) (q : Int) l22 n23 x24 x31 x32 (ints D) ((ints D).length : Int) (A.length : Int) c0 c1) R := by
  intro B
  induction B with
  | nil =>
    intro A hA
    obtain rfl : A = D := by simpa using hA
    refine Ev.step (fun k => number_Divisors.l2.eq_2 ..) (ev_no (by rw [ints_length]; omega) H)
  | cons x B ih =>
    intro A hA
    subst hA
    have hx := hb x (by simp)
    simp at hDl
    refine Ev.step (fun k => number_Divisors.l2.eq_2 ..) (ev_yes (by rw [ints_length]; simp; omega) (ev_yes (by omega) (ev_yes (by rw [ints_length]; simp; omega) (ev_yes (by rw [ints_length]; simp; omega) ?_))))
    rw [rd_ints, ← Int.natCast_mul, w64n (by omega), w64 (by omega) (by omega)]
    have := ih (A ++ [x]) (by simp)
    simpa [ints] using this
theorem ext_length (D : List Nat) (p : Nat) : ∀ e, (ext D p e).length = (e + 1) * D.length := by
  intro e
  induction e with
  | zero => simp [ext]
  | succ e ih => simp only [ext, List.length_append, ih, List.length_map]; rw [Nat.add_mul (e + 1) 1]; omega
theorem ext_take (D : List Nat) (p : Nat) : ∀ e, (ext D p e).take D.length = D := by
  intro e
  induction e with
  | zero => simp [ext]
  | succ e ih =>
    simp only [ext]
    rw [List.take_append_of_le_length]
    · exact ih
    · rw [ext_length]; exact Nat.le_mul_of_pos_left _ (by omega)
theorem divs_l1 {D : List Nat} {p m N : Nat} (hN : N ≤ 2147483647) (hp : 2 ≤ p) (hm : m ≤ 30) (hb : ∀ d ∈ D, d * p ^ m ≤ N) (hpm : p ^ m ≤ N) (hDl : D.length ≤ 2147483648) {l22 : List S29} {n23 x24 : Int} {R : List Int × Int}
    (H : Ev (fun k => number_Divisors.l0 k (ints (ext D p m)) l22 n23 (wrap64 (x24 + 1))) R) :
    ∀ (r j : Nat), j + r = m → Ev (fun k => number_Divisors.l1 k (ints (ext D p j)) (D.length : Int) ((p ^ j : Nat) : Int) l22 n23 x24 (m : Int) (j : Int) (p : Int) (m : Int)) R := by
  intro r
  induction r with
  | zero =>
    intro j hj
    obtain rfl : j = m := by omega
    exact Ev.step (fun k => number_Divisors.l1.eq_2 ..) (ev_no (by omega) H)
  | succ r ih =>
    intro j hj
    have hmono : p ^ (j + 1) ≤ p ^ m := Nat.pow_le_pow_right (by omega) (by omega)
    have hlen := ext_length D p j
    have hlen2 : (j + 1) * D.length ≤ 31 * 2147483648 := Nat.mul_le_mul (by omega) hDl
    have hlen3 : D.length ≤ (j + 1) * D.length := Nat.le_mul_of_pos_left _ (by omega)
    refine Ev.step (fun k => number_Divisors.l1.eq_2 ..) (ev_yes (by omega) (ev_yes (by omega) (ev_yes (by rw [ints_length]; omega) (ev_let rfl ?_))))
    rw [← Int.natCast_mul, show p ^ j * p = p ^ (j + 1) from (Nat.pow_succ ..).symm, w64n (by omega), ints_take, Int.toNat_natCast, ext_take]
    have hb' : ∀ d ∈ D, d * p ^ (j + 1) ≤ N := fun d hd => Nat.le_trans (Nat.mul_le_mul_left d hmono) (hb d hd)
    have := divs_l2 (D := D) (q := p ^ (j + 1)) hN hb' (l22 := l22) (n23 := n23) (x24 := x24) (x31 := (m : Int)) (x32 := (j : Int)) (c0 := (p : Int)) (c1 := (m : Int)) (Z := ext D p j) (R := R) (by omega) (by omega) (by
      have h2 := ih (j + 1) (by omega)
      rw [w64 (by omega) (by omega)]
      exact h2) D [] rfl
    simpa using this
/-- The divisors, sorted. -/
theorem sorted_divs {N : Nat} {D : List Nat} {A : List (Nat × Nat)} (h : DL N D A) (hN : 1 ≤ N) : ∃ L : List Nat, IsDivs N L ∧ D.Perm L ∧ (ints D).mergeSort (fun x y => decide (x ≤ y)) = ints L := by
  have hs := List.pairwise_mergeSort (le := fun x y : Int => decide (x ≤ y)) (by intro a b c; simp; omega) (by intro a b; simp; omega) (ints D)
  have hperm := List.mergeSort_perm (ints D) (fun x y => decide (x ≤ y))
  refine ⟨((ints D).mergeSort (fun x y => decide (x ≤ y))).map Int.toNat, ?_, ?_, ?_⟩
  · have hp2 : (((ints D).mergeSort (fun x y => decide (x ≤ y))).map Int.toNat).Perm D := by
      have := hperm.map Int.toNat
      refine this.trans ?_
      simp [ints, Function.comp_def]
    refine ⟨?_, fun x => ?_⟩
    · have hnd : (((ints D).mergeSort (fun x y => decide (x ≤ y))).map Int.toNat).Pairwise (· ≠ ·) := hp2.nodup_iff.2 h.nodup
      have hle : (((ints D).mergeSort (fun x y => decide (x ≤ y))).map Int.toNat).Pairwise (· ≤ ·) := by
        rw [List.pairwise_map]
        refine hs.imp fun h => ?_
        simp at h
        omega
      exact (hnd.and hle).imp fun h => by omega
    · rw [hp2.mem_iff, h.mem]
      constructor
      · intro hx
        refine ⟨?_, hx⟩
        rcases Nat.eq_zero_or_pos x with h0 | h0
        · subst h0; have := Nat.eq_zero_of_zero_dvd hx; omega
        · exact h0
      · exact fun hx => hx.2
  · have := hperm.map Int.toNat
    refine List.Perm.symm (this.trans ?_)
    simp [ints, Function.comp_def]
  · unfold ints
    rw [List.map_map]
    conv => lhs; rw [← List.map_id ((D.map fun x : Nat => (x : Int)).mergeSort fun x y => decide (x ≤ y))]
    refine List.map_congr_left fun x hx => ?_
    have := (List.mergeSort_perm (D.map fun x : Nat => (x : Int)) (fun x y => decide (x ≤ y))).mem_iff.1 hx
    obtain ⟨y, _, rfl⟩ := List.mem_map.1 this
    simp
theorem dl_len {M N : Nat} {D : List Nat} {A : List (Nat × Nat)} (h : DL M D A) (hM : 1 ≤ M) (hMN : M ≤ N) (hN : N ≤ 2147483647) : D.length ≤ N + 1 := by
  obtain ⟨L, hL, hp, _⟩ := sorted_divs h hM
  rw [hp.length_eq]
  have hb : ∀ (M : List Nat) (b c : Nat), M.Pairwise (· < ·) → (∀ x ∈ M, b ≤ x ∧ x < c) → M.length ≤ c - b := by
    intro M
    induction M with
    | nil => intros; simp
    | cons x M ih =>
      intro b c hp hx
      obtain ⟨q1, q2⟩ := List.pairwise_cons.1 hp
      have k := ih (x + 1) c q2 fun y hy => ⟨q1 y hy, (hx y (by simp [hy])).2⟩
      have k2 := hx x (by simp)
      simp only [List.length_cons]; omega
  have := hb L 0 (N + 1) hL.asc fun x hx => by
    obtain ⟨a1, a2⟩ := (hL.mem x).1 hx
    have := Nat.le_of_dvd hM a2
    omega
  omega
theorem divs_l0 {N : Nat} (hN1 : 1 ≤ N) (hN : N ≤ 2147483647) {L : List (Nat × Nat)} (hf : IsFac N L) {R : List Int × Int} : ∀ (B A : List (Nat × Nat)) (D : List Nat) (M : Nat), A ++ B = L → DL M D A → R = ((ints (dvl D B)).mergeSort (fun x y => decide (x ≤ y)), 0) →
    Ev (fun k => number_Divisors.l0 k (ints D) (L.map toS) ((L.map toS).length : Int) (A.length : Int)) R := by
  have hlen := hf.len hN
  intro B
  induction B with
  | nil =>
    intro A D M hA h hR
    obtain rfl : A = L := by simpa using hA
    have hM : M = N := by rw [← h.prod, hf.prod]
    subst hM
    have hl := dl_len h hN1 (Nat.le_refl _) hN
    have hne : D ≠ [] := fun e => by
      have := (h.mem 1).2 (Nat.one_dvd _)
      rw [e] at this; simp at this
    refine Ev.step (fun k => number_Divisors.l0.eq_2 ..) (ev_no (by simp) ?_)
    have hs : slices_Sort_int_int.f (ints D) = some ((ints D).mergeSort (fun x y => decide (x ≤ y))) := by
      unfold slices_Sort_int_int.f
      rw [if_pos ⟨by simpa [ints] using hne, by rw [ints_length]; omega⟩]
    rw [hR]
    exact ev_let hs (Ev.now _)
  | cons x B ih =>
    intro A D M hA h hR
    subst hA
    have hx := hf.prime x (by simp)
    have h2 := hx.1.two
    have hlt : ∀ z ∈ A, z.1 < x.1 := fun z hz => (List.pairwise_append.1 hf.asc).2.2 z hz x (by simp)
    have hexp := hf.exp_le x (by simp) hN1 hN
    have hbase := hf.le x (by simp) hN1
    have hprod := hf.prod
    rw [fprod_append, h.prod] at hprod
    simp only [fprod] at hprod
    have hMp : M * x.1 ^ x.2 ∣ N := ⟨fprod B, by rw [← hprod, Nat.mul_assoc]⟩
    have hMp2 := Nat.le_of_dvd hN1 hMp
    have hM1 : 1 ≤ M := by
      rcases Nat.eq_zero_or_pos M with h0 | h0
      · rw [h0] at hprod; omega
      · exact h0
    have hMN : M ≤ N := Nat.le_trans (Nat.le_mul_of_pos_right _ (Nat.pow_pos (by omega))) hMp2
    have hl := dl_len h hM1 hMN hN
    simp at hlen
    refine Ev.step (fun k => number_Divisors.l0.eq_2 ..) (ev_yes (by simp; omega) (ev_yes (by omega) (ev_yes (by simp; omega) ?_)))
    rw [rd_fac, ints_length]
    have := divs_l1 (D := D) (p := x.1) (m := x.2) hN h2 hexp (fun d hd => Nat.le_trans (Nat.mul_le_mul_right _ (Nat.le_of_dvd hM1 ((h.mem d).1 hd))) hMp2) hbase.1 (by omega) (l22 := (A ++ x :: B).map toS) (n23 := (((A ++ x :: B).map toS).length : Int)) (x24 := (A.length : Int)) (R := R) (by
      have h3 := ih (A ++ [x]) (ext D x.1 x.2) _ (by simp) (h.next (fun z hz => hf.prime z (by simp [hz])) hx.1 hlt) hR
      rw [w64 (by omega) (by omega)]
      simpa using h3) x.2 0 (by omega)
    simp [ext] at this ⊢
    exact this
theorem divs_ev {N : Nat} (hN1 : 1 ≤ N) (hN : N ≤ 2147483647) : ∃ L, IsDivs N L ∧ (dvl [1] (facl N)).Perm L ∧ Ev (fun k => number_Divisors.f k (N : Int)) (ints L, 0) := by
  have hf := facl_fac hN1
  have hD := DL.all (A := []) (B := facl N) DL.start hf
  obtain ⟨L, hL, hp, hs⟩ := sorted_divs hD hN1
  refine ⟨L, hL, hp, ?_⟩
  unfold number_Divisors.f
  refine Ev.bind (factor_ev hN1 hN) (ev_yes rfl ?_)
  have := divs_l0 hN1 hN hf (R := (ints L, 0)) (facl N) [] [1] 1 rfl DL.start (by rw [hs])
  exact this
theorem divs_out {a : Int} (h : a < 1 ∨ 2147483647 < a) : Ev (fun k => number_Divisors.f k a) ([], 6) := by
  unfold number_Divisors.f
  exact Ev.bind (factor_out h) (ev_no (by simp) (Ev.now _))
end Go.Proofs.Ytnppfagghpjkpaa.Num
