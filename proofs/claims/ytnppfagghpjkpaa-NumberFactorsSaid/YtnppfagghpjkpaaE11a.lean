/- What the reference's Divisors answers. -/
import Derived.Test.YtnppfagghpjkpaaE10a
import Derived.Test.YtnppfagghpjkpaaT6
import Derived.Test.YtnppfagghpjkpaaNumx9
namespace Go.Proofs.Ytnppfagghpjkpaa.Num
set_option linter.unusedVariables false
open Go.RowKit Go.Proofs.YtnppfagghpjkpaaW.PrintWords

def ints (L : List Nat) : List Int := L.map fun x : Nat => (x : Int)
theorem ints_append (A B : List Nat) : ints (A ++ B) = ints A ++ ints B := by simp [ints]
theorem ints_length (A : List Nat) : (ints A).length = A.length := by simp [ints]
theorem rd_ints (A B : List Nat) (x : Nat) : rd (ints (A ++ x :: B)) (A.length : Int) = (x : Int) := by
  unfold rd ints
  simp [List.getD_eq_getElem?_getD]

theorem rdivs_l1 {lo : List Nat} : ∀ (m : Nat) (A B acc : List Nat), A.length = m → m ≤ 4294967296 → acc.length + m ≤ 8589934592 →
    Ev (fun k => codewrightref03_Divisors.l1 k (ints acc) (ints (A ++ B)) ((A.length : Int) - 1)) (ints (acc ++ A.reverse), 0) := by
  intro m
  induction m with
  | zero =>
    intro A B acc hA hm hl
    obtain rfl : A = [] := List.length_eq_zero_iff.1 hA
    refine Ev.step (fun k => codewrightref03_Divisors.l1.eq_2 ..) (ev_no (by simp) ?_)
    simp only [List.reverse_nil, List.append_nil]
    exact Ev.now _
  | succ m ih =>
    intro A B acc hA hm hl
    obtain ⟨A', x, rfl⟩ : ∃ A' x, A = A' ++ [x] := ⟨A.dropLast, A.getLast (by intro h; simp [h] at hA), (List.dropLast_concat_getLast _).symm⟩
    have hA' : A'.length = m := by simpa using hA
    refine Ev.step (fun k => codewrightref03_Divisors.l1.eq_2 ..) ?_
    have e : (((A' ++ [x]).length : Nat) : Int) - 1 = (A'.length : Int) := by simp
    rw [e, List.append_assoc, List.singleton_append, rd_ints, ints_length, ints_length]
    refine ev_yes (by omega) (ev_yes (by omega) (ev_yes (by simp; omega) (ev_yes (by omega) ?_)))
    rw [w64 (by omega) (by omega)]
    have := ih A' (x :: B) (acc ++ [x]) hA' (by omega) (by simp; omega)
    rw [ints_append] at this
    refine ev_eq this ?_
    simp
theorem rdivs_l0 {N : Nat} (hN : 1 ≤ N) (hN2 : N ≤ 2147483647) : ∀ (f d : Nat) (lo hi : List Nat), N + 1 < d + f → d ≤ N + 1 → DInv N d lo hi →
    ∃ L, IsDivs N L ∧ Ev (fun k => codewrightref03_Divisors.l0 k (N : Int) (ints lo) (ints hi) (d : Int)) (ints L, 0) := by
  intro f
  induction f with
  | zero => intro d lo hi h1 h2; omega
  | succ f ih =>
    intro d lo hi h1 h2 I
    have hd1 := I.one
    have hl1 := I.llen
    have hl2 := I.hlen
    have hm : d * d ≤ 2147483648 * 2147483648 := Nat.mul_le_mul (by omega) (by omega)
    by_cases hc : d * d ≤ N
    · have hdn : d ≤ N := Nat.le_trans (Nat.le_mul_of_pos_left d (by omega)) hc
      have hstep : ∀ {R}, Ev (fun k => if (Int.tmod (N : Int) (d : Int)) = 0 then (if (ints lo).length < 17592186044416 then ((some (ints lo ++ [(d : Int)] : List Int)).bind fun y190 => (if (d : Int) = (wrap64 (Int.tdiv (N : Int) (d : Int))) then (codewrightref03_Divisors.l0 k (N : Int) y190 (ints hi) (wrap64 ((d : Int) + 1))) else (if (ints hi).length < 17592186044416 then (codewrightref03_Divisors.l0 k (N : Int) y190 (ints hi ++ [wrap64 (Int.tdiv (N : Int) (d : Int))]) (wrap64 ((d : Int) + 1))) else (none)))) else (none)) else (codewrightref03_Divisors.l0 k (N : Int) (ints lo) (ints hi) (wrap64 ((d : Int) + 1)))) R → Ev (fun k => codewrightref03_Divisors.l0 k (N : Int) (ints lo) (ints hi) (d : Int)) R := by
        intro R H
        refine Ev.step (fun k => codewrightref03_Divisors.l0.eq_2 ..) ?_
        rw [← Int.natCast_mul, w64n (by omega)]
        exact ev_yes (by omega) (ev_no (by omega) H)
      have hw : wrap64 ((d : Int) + 1) = ((d + 1 : Nat) : Int) := w64 (by omega) (by omega)
      have hq : N / d ≤ N := Nat.div_le_self ..
      have hwq : wrap64 (Int.tdiv (N : Int) (d : Int)) = ((N / d : Nat) : Int) := by rw [nat_tdiv]; exact w64n (by omega)
      by_cases h0 : d ∣ N
      · obtain ⟨L, hL, he⟩ := ih (d + 1) _ _ (by omega) (by omega) (I.hit hN hc h0)
        refine ⟨L, hL, hstep ?_⟩
        refine ev_yes (by rw [nat_tmod, Nat.mod_eq_zero_of_dvd h0]; rfl) (ev_yes (by rw [ints_length]; omega) (ev_let rfl ?_))
        rw [hw, hwq]
        by_cases h3 : d = N / d
        · rw [if_pos h3] at he
          refine ev_yes (by omega) ?_
          simpa [ints] using he
        · rw [if_neg h3] at he
          refine ev_no (by omega) (ev_yes (by rw [ints_length]; omega) ?_)
          simpa [ints] using he
      · obtain ⟨L, hL, he⟩ := ih (d + 1) _ _ (by omega) (by omega) (I.skip hN hc h0)
        refine ⟨L, hL, hstep ?_⟩
        refine ev_no (by rw [nat_tmod]; have := fun h => h0 (Nat.dvd_of_mod_eq_zero h); omega) ?_
        rw [hw]; exact he
    · refine ⟨_, I.done hN hc, ?_⟩
      refine Ev.step (fun k => codewrightref03_Divisors.l0.eq_2 ..) ?_
      rw [← Int.natCast_mul, w64n (by omega)]
      refine ev_no (by omega) ?_
      rw [ints_length, w64 (by omega) (by omega)]
      have := rdivs_l1 (lo := lo) hi.length hi [] lo rfl (by omega) (by omega)
      rw [List.append_nil] at this
      exact this
theorem rdivs_ev {N : Nat} (hN : 1 ≤ N) (hN2 : N ≤ 2147483647) : ∃ L, IsDivs N L ∧ Ev (fun k => codewrightref03_Divisors.f k (N : Int)) (ints L, 0) := by
  obtain ⟨L, hL, he⟩ := rdivs_l0 hN hN2 (N + 2) 1 [] [] (by omega) (by omega) (DInv.start N)
  refine ⟨L, hL, ?_⟩
  unfold codewrightref03_Divisors.f
  exact ev_let (rin_yes (by omega) (by omega)) (ev_yes rfl he)
theorem rdivs_out {a : Int} (h : a < 1 ∨ 2147483647 < a) : Ev (fun k => codewrightref03_Divisors.f k a) ([], 6) := by
  unfold codewrightref03_Divisors.f
  exact ev_let (rin_no h) (ev_no (by simp) (Ev.now _))

end Go.Proofs.Ytnppfagghpjkpaa.Num
