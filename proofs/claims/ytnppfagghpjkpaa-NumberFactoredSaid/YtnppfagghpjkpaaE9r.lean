/- What the reference's Exp and both Product answer. -/
import Derived.Test.YtnppfagghpjkpaaE9
import Derived.Test.YtnppfagghpjkpaaE3
import Derived.Test.YtnppfagghpjkpaaNumx12
namespace Go.Proofs.Ytnppfagghpjkpaa.Num
set_option linter.unusedVariables false
open Go.RowKit Go.Proofs.YtnppfagghpjkpaaW.PrintWords Go.Proofs.YtnppfagghpjkpaaW.PrintMore

theorem rexp_l0 {q kk most : Nat} (hq : q ≤ 9223372036854775807) (hk : kk ≤ 9223372036854775807) (hm : most ≤ 9223372036854775807) : ∀ (m j : Nat), j + m = kk → (q ^ j ≤ most ∨ j = 0) → (q = 0 → kk = 0) →
    Ev (fun k => codewrightref03_Exp.l0 k (q : Int) (kk : Int) (most : Int) ((q ^ j : Nat) : Int) (j : Int)) (expR q kk most) := by
  have hend : ∀ j : Nat, q ^ j = q ^ kk → Ev (fun k => codewrightref03_Exp.j3 k (q : Int) (kk : Int) (most : Int) ((q ^ j : Nat) : Int) (j : Int) false) (expR q kk most) := by
    intro j hj
    refine Ev.step (fun k => codewrightref03_Exp.j3.eq_2 ..) (ev_no (by simp) ?_)
    unfold expR
    rw [hj]
    by_cases h : most < q ^ kk
    · rw [if_pos h]; exact ev_yes (by omega) (Ev.now _)
    · rw [if_neg h]; exact ev_no (by omega) (Ev.now _)
  intro m
  induction m with
  | zero =>
    intro j h1 h2 h3
    obtain rfl : j = kk := by omega
    exact Ev.step (fun k => codewrightref03_Exp.l0.eq_2 ..) (ev_no (by omega) (hend _ rfl))
  | succ m ih =>
    intro j h1 h2 h3
    refine Ev.step (fun k => codewrightref03_Exp.l0.eq_2 ..) (ev_yes (by omega) ?_)
    by_cases hq1 : (q : Int) > 1
    · rw [decide_eq_true hq1]
      have hd : most / q ≤ most := Nat.div_le_self _ _
      have hdiv : (q ^ j > most / q) ↔ most < q ^ j * q := Nat.div_lt_iff_lt_mul (by omega)
      refine Ev.step (fun k => codewrightref03_Exp.j3.eq_2 ..) (ev_yes rfl (ev_no (by omega) ?_))
      rw [nat_tdiv]
      generalize most / q = dq at *
      rw [w64n (m := dq) (by omega)]
      by_cases hb : ((q ^ j : Nat) : Int) > (dq : Int)
      · refine ev_yes hb ?_
        have h4 := hdiv.1 (by omega)
        have h5 : q ^ j * q ≤ q ^ kk := by
          rw [← Nat.pow_succ]; exact Nat.pow_le_pow_right (by omega) (by omega)
        unfold expR
        rw [if_pos (by omega)]
        exact Ev.now _
      · refine ev_no hb ?_
        have h4 : ¬ most < q ^ j * q := fun h => hb (by have := hdiv.2 h; omega)
        have e : ((q ^ j : Nat) : Int) * (q : Int) = ((q ^ (j + 1) : Nat) : Int) := by rw [Nat.pow_succ]; push_cast; rfl
        rw [← Nat.pow_succ] at h4
        rw [e, w64n (m := q ^ (j + 1)) (by show q ^ (j + 1) ≤ _; omega), w64 (by omega) (by omega), show ((j : Nat) : Int) + 1 = ((j + 1 : Nat) : Int) by omega]
        exact ih (j + 1) (by omega) (.inl (by show q ^ (j + 1) ≤ _; omega)) h3
    · rw [decide_eq_false hq1]
      have hq2 : q = 1 := by
        rcases Nat.eq_zero_or_pos q with h | h
        · have := h3 h; omega
        · omega
      exact hend j (by rw [hq2, Nat.one_pow, Nat.one_pow])
theorem rexp_ev {q k most : Nat} (hq : q ≤ 9223372036854775807) (hk : k ≤ 9223372036854775807) (hm : most ≤ 9223372036854775807) : Ev (fun r => codewrightref03_Exp.f r (q : Int) (k : Int) (most : Int)) (expR q k most) := by
  unfold codewrightref03_Exp.f
  refine ev_no (by omega) (ev_no (by omega) ?_)
  rw [decide_eq_false (by omega)]
  refine Ev.step (fun k => codewrightref03_Exp.j0.eq_2 ..) (ev_no (by simp) ?_)
  have hrest : (q = 0 → k = 0) → Ev (fun r => codewrightref03_Exp.j1 r (q : Int) (k : Int) (most : Int) false) (expR q k most) := by
    intro h0
    refine Ev.step (fun k => codewrightref03_Exp.j1.eq_2 ..) (ev_no (by simp) ?_)
    have := rexp_l0 hq hk hm k 0 (by omega) (.inr rfl) h0
    simpa using this
  by_cases h0 : (q : Int) = 0
  · refine ev_yes h0 ?_
    obtain rfl : q = 0 := by omega
    by_cases hk0 : (k : Int) > 0
    · rw [decide_eq_true hk0]
      refine Ev.step (fun k => codewrightref03_Exp.j1.eq_2 ..) (ev_yes rfl ?_)
      unfold expR
      rw [Nat.zero_pow (by omega), if_neg (by omega)]
      exact Ev.now _
    · rw [decide_eq_false hk0]
      exact hrest (fun _ => by omega)
  · exact ev_no h0 (hrest (fun h => by omega))
theorem rexp_out {n k most : Int} (h : n < 0 ∨ k < 0 ∨ most < 0) : Ev (fun r => codewrightref03_Exp.f r n k most) (0, 6) := by
  unfold codewrightref03_Exp.f
  have hj : ∀ b, b = true → Ev (fun r => codewrightref03_Exp.j0 r n k most b) (0, 6) := by
    rintro b rfl
    exact Ev.step (fun k => codewrightref03_Exp.j0.eq_2 ..) (ev_yes rfl (Ev.now _))
  by_cases h1 : n < 0
  · exact ev_yes h1 (hj _ rfl)
  · refine ev_no h1 ?_
    by_cases h2 : k < 0
    · exact ev_yes h2 (hj _ rfl)
    · exact ev_no h2 (hj _ (decide_eq_true (by omega)))

/-! ### products -/
def prodR (a0 : Int) (l1 : List Int) : Int × Int :=
  if a0 < 0 ∨ l1.any (fun x => decide (x < 0)) = true then (0, 6)
  else if l1.any (fun x => x == 0) = true then (0, 0)
  else if a0 < lprod l1 then (0, 8) else (lprod l1, 0)
theorem product_some {a0 : Int} (h : a0 ≤ 9223372036854775807) (l : List Int) : number_Product.f a0 l = some (prodR a0 l) := by
  unfold number_Product.f prodR
  rw [if_neg (by omega)]
  split
  · rfl
  · split
    · rfl
    · split <;> rfl
theorem any_drop {p : Int → Bool} {l : List Int} {i : Nat} (h : i < l.length) : (l.drop i).any p = (p (rd l (i : Int)) || (l.drop (i + 1)).any p) := by
  rw [List.drop_eq_getElem_cons h, rd_nat l i h]; rfl
theorem any_take {p : Int → Bool} {l : List Int} {i : Nat} (h : i < l.length) : (l.take (i + 1)).any p = ((l.take i).any p || p (rd l (i : Int))) := by
  rw [List.take_succ_eq_append_getElem h, List.any_append, rd_nat l i h]; simp

theorem rprod_l1 {a0 : Int} {l : List Int} (h0 : 0 ≤ a0) (ha : a0 ≤ 9223372036854775807) (hl : l.length ≤ 1000) (hp : ∀ x ∈ l, 1 ≤ x ∧ x ≤ 9223372036854775807) : ∀ (d i : Nat), i + d = l.length → (lprod (l.take i) ≤ a0 ∨ i = 0) →
    Ev (fun k => codewrightref03_Product.l1 k a0 l (lprod (l.take i)) (i : Int)) (if a0 < lprod l then (0, 8) else (lprod l, 0)) := by
  have hp1 : ∀ x ∈ l, 1 ≤ x := fun x hx => (hp x hx).1
  intro d
  induction d with
  | zero =>
    intro i hi hc
    rw [List.take_of_length_le (by omega)]
    refine Ev.step (fun k => codewrightref03_Product.l1.eq_2 ..) (ev_no (by omega) ?_)
    by_cases h : a0 < lprod l
    · refine ev_yes h ?_; rw [if_pos h]; exact Ev.now _
    · refine ev_no h ?_; rw [if_neg h]; exact Ev.now _
  | succ d ih =>
    intro i hi hc
    have hx : 1 ≤ rd l (i : Int) ∧ rd l (i : Int) ≤ 9223372036854775807 := by rw [rd_nat l i (by omega)]; exact hp _ (List.getElem_mem _)
    have h1 : 1 ≤ lprod (l.take i) := lprod_pos _ fun x hx => hp1 x (List.mem_of_mem_take hx)
    have h2 := lprod_take l i (by omega)
    have h3 := lprod_take_le l (i + 1) hp1
    have h4 : 0 ≤ a0 / rd l (i : Int) := Int.ediv_nonneg h0 (by omega)
    have h5 : a0 / rd l (i : Int) ≤ a0 := Int.ediv_le_self _ h0
    have h6 : (lprod (l.take i) > a0 / rd l (i : Int)) ↔ a0 < lprod (l.take i) * rd l (i : Int) := Int.ediv_lt_iff_lt_mul (by omega)
    refine Ev.step (fun k => codewrightref03_Product.l1.eq_2 ..) (ev_yes (by omega) (ev_yes (by omega) (ev_no (by omega) ?_)))
    rw [tdiv_pos h0, w64 (show -9223372036854775808 ≤ a0 / rd l (i : Int) by omega) (by omega)]
    by_cases hb : lprod (l.take i) > a0 / rd l (i : Int)
    · refine ev_yes hb ?_
      have := h6.1 hb
      rw [if_pos (by omega)]
      exact Ev.now _
    · refine ev_no hb ?_
      have h7 : ¬ a0 < lprod (l.take i) * rd l (i : Int) := fun h => hb (h6.2 h)
      have h8 : 1 ≤ lprod (l.take (i + 1)) := lprod_pos _ fun x hx => hp1 x (List.mem_of_mem_take hx)
      rw [← h2] at h7 ⊢
      rw [w64 (by omega) (by omega), w64 (by omega) (by omega)]
      exact ih (i + 1) (by omega) (.inl (by omega))

theorem rprod_l0 {a0 : Int} {l : List Int} (ha : a0 ≤ 9223372036854775807) (hl : l.length ≤ 1000) (hp : ∀ x ∈ l, x ≤ 9223372036854775807) : ∀ (d i : Nat), i + d = l.length → (l.take i).any (fun x => decide (x < 0)) = false →
    Ev (fun k => codewrightref03_Product.l0 k a0 l ((l.take i).any (fun x => x == 0)) (i : Int)) (prodR a0 l) := by
  intro d
  induction d with
  | zero =>
    intro i hi hc
    rw [List.take_of_length_le (by omega)] at hc ⊢
    refine Ev.step (fun k => codewrightref03_Product.l0.eq_2 ..) (ev_no (by omega) ?_)
    unfold prodR
    by_cases h0 : a0 < 0
    · rw [if_pos (.inl h0)]; exact ev_yes h0 (Ev.now _)
    · refine ev_no h0 ?_
      rw [if_neg (by rw [hc]; simp; omega)]
      cases hz : l.any (fun x => x == 0) with
      | true => exact ev_yes rfl (ev_eq (Ev.now _) (by simp))
      | false =>
        refine ev_no (by simp) ?_
        rw [if_neg (by simp)]
        have hpos : ∀ x ∈ l, 1 ≤ x ∧ x ≤ 9223372036854775807 := fun x hx => by
          have k1 := List.any_eq_false.1 hc x hx
          have k2 := List.any_eq_false.1 hz x hx
          simp at k1 k2
          exact ⟨by omega, hp x hx⟩
        have := rprod_l1 (by omega) ha hl hpos l.length 0 (by omega) (.inr rfl)
        exact this
  | succ d ih =>
    intro i hi hc
    have hn := any_take (p := fun x => decide (x < 0)) (l := l) (i := i) (by omega)
    have hz := any_take (p := fun x => x == 0) (l := l) (i := i) (by omega)
    rw [hc] at hn
    refine Ev.step (fun k => codewrightref03_Product.l0.eq_2 ..) (ev_yes (by omega) (ev_yes (by omega) ?_))
    by_cases h : rd l (i : Int) < 0
    · refine ev_yes h ?_
      have : l.any (fun x => decide (x < 0)) = true := by
        rw [List.any_eq_true]
        exact ⟨rd l (i : Int), rd_mem (i : Int) (by omega) (by omega), by simpa using h⟩
      unfold prodR
      rw [if_pos (.inr this)]
      exact Ev.now _
    · refine ev_no h ?_
      have hc2 : (l.take (i + 1)).any (fun x => decide (x < 0)) = false := by rw [hn]; simpa using h
      have := ih (i + 1) (by omega) hc2
      rw [w64 (by omega) (by omega)]
      cases hf : (l.take i).any (fun x => x == 0) with
      | true =>
        refine ev_yes rfl ?_
        rw [hz, hf] at this
        exact this
      | false =>
        refine ev_no (by simp) ?_
        rw [hz, hf] at this
        exact this
theorem rprod_ev {a0 : Int} {l : List Int} (ha : a0 ≤ 9223372036854775807) (hl : l.length ≤ 1000) (hp : ∀ x ∈ l, x ≤ 9223372036854775807) : Ev (fun k => codewrightref03_Product.f k a0 l) (prodR a0 l) := by
  unfold codewrightref03_Product.f
  exact rprod_l0 ha hl hp l.length 0 (by omega) rfl
theorem lprod_reverse (l : List Int) : lprod l.reverse = lprod l := by
  induction l with
  | nil => rfl
  | cons x l ih => rw [List.reverse_cons, lprod_append, ih]; simp [lprod, Int.mul_comm]
theorem prodR_reverse (a0 : Int) (l : List Int) : prodR a0 l.reverse = prodR a0 l := by
  unfold prodR
  rw [List.any_reverse, List.any_reverse, lprod_reverse]
end Go.Proofs.Ytnppfagghpjkpaa.Num
