/- bits.Div64's quotient. -/
import Derived.Test.YtnppfagghpjkpaaE5
import Derived.Test.YtnppfagghpjkpaaNumx5
namespace Go.Proofs.Ytnppfagghpjkpaa.Num
set_option linter.unusedVariables false
open Go.RowKit Go.Proofs.YtnppfagghpjkpaaW.PrintWords Go.Proofs.YtnppfagghpjkpaaW.PrintMore

/-- A divisor, put at the left end: Y = y1 B + y0. -/
structure Norm (Y y1 y0 : Int) : Prop where
  eq : Y = y1 * 4294967296 + y0
  lo : 9223372036854775808 ≤ Y
  hi : Y ≤ 18446744073709551615
  a0 : 0 ≤ y0
  a1 : y0 ≤ 4294967295
theorem Norm.y1 {Y y1 y0 : Int} (h : Norm Y y1 y0) : 2147483648 ≤ y1 ∧ y1 ≤ 4294967295 := by
  have := h.eq; have := h.lo; have := h.hi; have := h.a0; have := h.a1; omega

/-- A guess of the digit (U B + d) / Y. -/
structure Guess (Y y1 y0 U d q rh : Int) : Prop where
  u0 : 0 ≤ U
  u1 : U < Y
  d0 : 0 ≤ d
  d1 : d ≤ 4294967295
  ge : (U * 4294967296 + d) / Y ≤ q
  rem : rh = U - q * y1
  r0 : 0 ≤ rh
  r1 : rh ≤ 4294967295

theorem digit_range {Y U d : Int} (hY : 1 ≤ Y) (u0 : 0 ≤ U) (u1 : U < Y) (d0 : 0 ≤ d) (d1 : d ≤ 4294967295) : 0 ≤ (U * 4294967296 + d) / Y ∧ (U * 4294967296 + d) / Y ≤ 4294967295 := by
  refine ⟨Int.ediv_nonneg (by omega) (by omega), ?_⟩
  have : (U * 4294967296 + d) / Y < 4294967296 := (Int.ediv_lt_iff_lt_mul (by omega)).2 (by omega)
  omega
theorem mul_parts {Y y1 y0 : Int} (hn : Norm Y y1 y0) (q : Int) : q * Y = q * y1 * 4294967296 + q * y0 := by rw [hn.eq, Int.mul_add, ← Int.mul_assoc]

/-- The guess is right. -/
theorem Guess.right {Y y1 y0 U d q rh : Int} (hn : Norm Y y1 y0) (g : Guess Y y1 y0 U d q rh) (h : q * y0 ≤ 4294967296 * rh + d) : q = (U * 4294967296 + d) / Y := by
  have h1 := mul_parts hn q
  have h2 := g.rem
  have h3 : q ≤ (U * 4294967296 + d) / Y := (Int.le_ediv_iff_mul_le (by have := hn.lo; omega)).2 (by omega)
  have := g.ge
  omega
/-- The guess is too great. -/
theorem Guess.less {Y y1 y0 U d q rh : Int} (hn : Norm Y y1 y0) (g : Guess Y y1 y0 U d q rh) (h : 4294967296 ≤ q ∨ 4294967296 * rh + d < q * y0) : (U * 4294967296 + d) / Y ≤ q - 1 := by
  have hr := digit_range (by have := hn.lo; omega) g.u0 g.u1 g.d0 g.d1
  rcases h with h | h
  · omega
  · have h1 := mul_parts hn q
    have h2 := g.rem
    have : (U * 4294967296 + d) / Y < q := (Int.ediv_lt_iff_lt_mul (by have := hn.lo; omega)).2 (by omega)
    omega
theorem Guess.next {Y y1 y0 U d q rh : Int} (hn : Norm Y y1 y0) (g : Guess Y y1 y0 U d q rh) (h : 4294967296 ≤ q ∨ 4294967296 * rh + d < q * y0) (hr : rh + y1 ≤ 4294967295) : Guess Y y1 y0 U d (q - 1) (rh + y1) :=
  ⟨g.u0, g.u1, g.d0, g.d1, g.less hn h, by have := g.rem; rw [Int.sub_mul]; omega, by have := g.r0; have := hn.y1; omega, hr⟩
theorem Guess.last {Y y1 y0 U d q rh : Int} (hn : Norm Y y1 y0) (g : Guess Y y1 y0 U d q rh) (h : 4294967296 ≤ q ∨ 4294967296 * rh + d < q * y0) (hr : 4294967296 ≤ rh + y1) : q - 1 = (U * 4294967296 + d) / Y := by
  have h1 := mul_parts hn (q - 1)
  have h2 := g.rem
  have h3 := g.less hn h
  have h4 := digit_range (by have := hn.lo; omega) g.u0 g.u1 g.d0 g.d1
  have e : (q - 1) * y1 = q * y1 - y1 := by rw [Int.sub_mul]; omega
  have hy := hn.y1
  have hq : q - 1 ≤ 4294967295 := by
    rcases Int.lt_or_le 4294967295 (q - 1) with h5 | h5
    · have : 4294967296 * y1 ≤ (q - 1) * y1 := Int.mul_le_mul_of_nonneg_right (by omega) (by omega)
      have := hn.eq; have := g.u1; have := hn.a1
      omega
    · exact h5
  have h6 : (q - 1) * y0 ≤ 4294967295 * 4294967295 := Int.mul_le_mul hq hn.a1 hn.a0 (by omega)
  have h7 : q - 1 ≤ (U * 4294967296 + d) / Y := (Int.le_ediv_iff_mul_le (by have := hn.lo; omega)).2 (by have := g.d0; omega)
  omega
theorem Guess.start {Y y1 y0 U d : Int} (hn : Norm Y y1 y0) (u0 : 0 ≤ U) (u1 : U < Y) (d0 : 0 ≤ d) (d1 : d ≤ 4294967295) : Guess Y y1 y0 U d (U / y1) (U - U / y1 * y1) := by
  have hy := hn.y1
  have e : U - U / y1 * y1 = U % y1 := by rw [Int.emod_def, Int.mul_comm]
  have r0 := Int.emod_nonneg U (show y1 ≠ 0 by omega)
  have r1 := Int.emod_lt_of_pos U (show 0 < y1 by omega)
  refine ⟨u0, u1, d0, d1, ?_, rfl, by omega, by omega⟩
  obtain ⟨h1, h2⟩ := digit_range (by have := hn.lo; omega) u0 u1 d0 d1
  generalize hq : (U * 4294967296 + d) / Y = q at *
  have h3 : q * Y ≤ U * 4294967296 + d := by rw [← hq]; exact Int.ediv_mul_le _ (by have := hn.lo; omega)
  have h4 := mul_parts hn q
  have h5 : 0 ≤ q * y0 := Int.mul_nonneg h1 hn.a0
  exact (Int.le_ediv_iff_mul_le (by omega)).2 (by omega)
theorem start_size {Y y1 y0 U : Int} (hn : Norm Y y1 y0) (u0 : 0 ≤ U) (u1 : U < Y) : 0 ≤ U / y1 ∧ U / y1 ≤ 18446744073709551615 ∧ 0 ≤ U / y1 * y1 ∧ U / y1 * y1 ≤ U := by
  have hy := hn.y1
  have h1 : 0 ≤ U / y1 := Int.ediv_nonneg u0 (by omega)
  have h2 := Int.ediv_mul_le U (show y1 ≠ 0 by omega)
  have h3 : U / y1 ≤ U := Int.ediv_le_self _ u0
  have := hn.hi
  exact ⟨h1, by omega, Int.mul_nonneg h1 (by omega), h2⟩
/-- What is left of a digit. -/
theorem left_of {Y U d q : Int} (hY : 9223372036854775808 ≤ Y) (hY2 : Y ≤ 18446744073709551615) (hq : q = (U * 4294967296 + d) / Y) :
    IntKind.u64.wrap (IntKind.u64.wrap (IntKind.u64.wrap (U * 4294967296) + d) - IntKind.u64.wrap (q * Y)) = (U * 4294967296 + d) % Y := by
  have h1 := Int.emod_nonneg (U * 4294967296 + d) (show Y ≠ 0 by omega)
  have h2 := Int.emod_lt_of_pos (U * 4294967296 + d) (show 0 < Y by omega)
  have h3 : (U * 4294967296 + d) % Y = U * 4294967296 + d - q * Y := by rw [Int.emod_def, hq, Int.mul_comm Y]
  rw [uwrap, uwrap, uwrap, uwrap]
  omega

theorem ev_pair {f : Nat → Option (Int × Int)} {p : Int × Int} {a : Int} (h : Ev f p) (e : p.1 = a) : ∃ r, Ev f (a, r) := ⟨p.2, by rw [← e]; exact h⟩
theorem div_l1 {Y y1 y0 s U d q1 : Int} (hn : Norm Y y1 y0) (hs : 0 ≤ s) (q10 : 0 ≤ q1) (q11 : q1 ≤ 4294967295) : ∀ (m : Nat) (q rh : Int), (4294967296 - rh).toNat ≤ m → Guess Y y1 y0 U d q rh → q ≤ 18446744073709551615 →
    ∃ r, Ev (fun k => bits_Div64.l1 k Y s y1 y0 d q1 rh U q) (q1 * 4294967296 + (U * 4294967296 + d) / Y, r) := by
  intro m
  induction m with
  | zero => intro q rh hm g hq; have := g.r1; omega
  | succ m ih =>
    intro q rh hm g hq
    have hy := hn.y1
    have hd := digit_range (by have := hn.lo; omega) g.u0 g.u1 g.d0 g.d1
    have hq0 : 0 ≤ q := by have := g.ge; omega
    have r0 := g.r0; have r1 := g.r1; have d0 := g.d0; have d1 := g.d1
    -- too great
    have hyes : (4294967296 ≤ q ∨ 4294967296 * rh + d < q * y0) → ∃ r, Ev (fun k => bits_Div64.j4 k Y s y1 y0 d q1 rh U q true) (q1 * 4294967296 + (U * 4294967296 + d) / Y, r) := by
      intro h
      have hl := g.less hn h
      by_cases hb : 4294967296 ≤ rh + y1
      · have e := g.last hn h hb
        refine ev_pair (Ev.step (fun k => bits_Div64.j4.eq_2 ..) (ev_yes rfl (ev_yes (by rw [uw (by omega) (by omega)]; omega) (ev_yes hs (Ev.now _))))) ?_
        show IntKind.u64.wrap (IntKind.u64.wrap (q1 * 4294967296) + IntKind.u64.wrap (q - 1)) = _
        rw [uw (show 0 ≤ q1 * 4294967296 by omega) (by omega), uw (show 0 ≤ q - 1 by omega) (by omega), uw (show 0 ≤ q1 * 4294967296 + (q - 1) by omega) (by omega), e]
      · obtain ⟨r, hr⟩ := ih (q - 1) (rh + y1) (by omega) (g.next hn h (by omega)) (by omega)
        refine ⟨r, Ev.step (fun k => bits_Div64.j4.eq_2 ..) (ev_yes rfl (ev_no (by rw [uw (by omega) (by omega)]; omega) ?_))⟩
        rw [uw (show 0 ≤ rh + y1 by omega) (by omega), uw (show 0 ≤ q - 1 by omega) (by omega)]
        exact hr
    by_cases h1 : q ≥ 4294967296
    · obtain ⟨r, hr⟩ := hyes (.inl h1)
      exact ⟨r, Ev.step (fun k => bits_Div64.l1.eq_2 ..) (ev_yes h1 hr)⟩
    · obtain ⟨p1, p2⟩ := prod_lt (x := q) (y := y0) hq0 (by omega) hn.a0 hn.a1
      have e1 : IntKind.u64.wrap (q * y0) = q * y0 := uw p1 (by omega)
      have e2 : IntKind.u64.wrap (4294967296 * rh) = 4294967296 * rh := uw (by omega) (by omega)
      have e3 : IntKind.u64.wrap (4294967296 * rh + d) = 4294967296 * rh + d := uw (by omega) (by omega)
      by_cases h2 : q * y0 > 4294967296 * rh + d
      · obtain ⟨r, hr⟩ := hyes (.inr (by omega))
        refine ⟨r, Ev.step (fun k => bits_Div64.l1.eq_2 ..) (ev_no h1 ?_)⟩
        rw [e1, e2, e3, decide_eq_true h2]
        exact hr
      · have e := g.right hn (by omega)
        have hj : ∃ r, Ev (fun k => bits_Div64.j4 k Y s y1 y0 d q1 rh U q false) (q1 * 4294967296 + (U * 4294967296 + d) / Y, r) := by
          refine ev_pair (Ev.step (fun k => bits_Div64.j4.eq_2 ..) (ev_no (by simp) (ev_yes hs (Ev.now _)))) ?_
          show IntKind.u64.wrap (IntKind.u64.wrap (q1 * 4294967296) + q) = _
          rw [uw (show 0 ≤ q1 * 4294967296 by omega) (by omega), uw (show 0 ≤ q1 * 4294967296 + q by omega) (by omega), e]
        obtain ⟨r, hr⟩ := hj
        refine ⟨r, Ev.step (fun k => bits_Div64.l1.eq_2 ..) (ev_no h1 ?_)⟩
        rw [e1, e2, e3, decide_eq_false h2]
        exact hr

theorem div_l0 {Y y1 y0 s U d d' : Int} {R : Int × Int} (hn : Norm Y y1 y0) (H : Ev (fun k => bits_Div64.j2 k Y s y1 y0 U d d' ((U * 4294967296 + d) / Y)) R) : ∀ (m : Nat) (q rh : Int), (4294967296 - rh).toNat ≤ m → Guess Y y1 y0 U d q rh → q ≤ 18446744073709551615 →
    Ev (fun k => bits_Div64.l0 k Y s y1 y0 U d d' q rh) R := by
  intro m
  induction m with
  | zero => intro q rh hm g hq; have := g.r1; omega
  | succ m ih =>
    intro q rh hm g hq
    have hy := hn.y1
    have hd := digit_range (by have := hn.lo; omega) g.u0 g.u1 g.d0 g.d1
    have hq0 : 0 ≤ q := by have := g.ge; omega
    have r0 := g.r0; have r1 := g.r1; have d0 := g.d0; have d1 := g.d1
    have hyes : (4294967296 ≤ q ∨ 4294967296 * rh + d < q * y0) → Ev (fun k => bits_Div64.j1 k Y s y1 y0 U d d' q rh true) R := by
      intro h
      have hl := g.less hn h
      refine Ev.step (fun k => bits_Div64.j1.eq_2 ..) (ev_yes rfl ?_)
      rw [uw (show 0 ≤ rh + y1 by omega) (by omega), uw (show 0 ≤ q - 1 by omega) (by omega)]
      by_cases hb : 4294967296 ≤ rh + y1
      · have e := g.last hn h hb
        refine ev_yes (by omega) ?_
        rw [e]; exact H
      · exact ev_no (by omega) (ih (q - 1) (rh + y1) (by omega) (g.next hn h (by omega)) (by omega))
    by_cases h1 : q ≥ 4294967296
    · exact Ev.step (fun k => bits_Div64.l0.eq_2 ..) (ev_yes h1 (hyes (.inl h1)))
    · obtain ⟨p1, p2⟩ := prod_lt (x := q) (y := y0) hq0 (by omega) hn.a0 hn.a1
      have e1 : IntKind.u64.wrap (q * y0) = q * y0 := uw p1 (by omega)
      have e2 : IntKind.u64.wrap (4294967296 * rh) = 4294967296 * rh := uw (by omega) (by omega)
      have e3 : IntKind.u64.wrap (4294967296 * rh + d) = 4294967296 * rh + d := uw (by omega) (by omega)
      refine Ev.step (fun k => bits_Div64.l0.eq_2 ..) (ev_no h1 ?_)
      rw [e1, e2, e3]
      by_cases h2 : q * y0 > 4294967296 * rh + d
      · rw [decide_eq_true h2]; exact hyes (.inr (by omega))
      · rw [decide_eq_false h2]
        refine Ev.step (fun k => bits_Div64.j1.eq_2 ..) (ev_no (by simp) ?_)
        rw [g.right hn (by omega)]; exact H

/-- Both digits. -/
theorem div_digits {Y y1 y0 s U d d' : Int} (hn : Norm Y y1 y0) (hs : 0 ≤ s) (u0 : 0 ≤ U) (u1 : U < Y) (d0 : 0 ≤ d) (d1 : d ≤ 4294967295) (e0 : 0 ≤ d') (e1 : d' ≤ 4294967295) :
    ∃ r, Ev (fun k => bits_Div64.l0 k Y s y1 y0 U d d' (IntKind.u64.wrap (Int.tdiv U y1)) (IntKind.u64.wrap (U - IntKind.u64.wrap (IntKind.u64.wrap (Int.tdiv U y1) * y1)))) ((U * 18446744073709551616 + d * 4294967296 + d') / Y, r) := by
  have hy := hn.y1
  have hlo := hn.lo; have hhi := hn.hi
  obtain ⟨z1, z2, z3, z4⟩ := start_size hn u0 u1
  have hd := digit_range (show 1 ≤ Y by omega) u0 u1 d0 d1
  have t0 := Int.emod_nonneg (U * 4294967296 + d) (show Y ≠ 0 by omega)
  have t1 := Int.emod_lt_of_pos (U * 4294967296 + d) (show 0 < Y by omega)
  obtain ⟨r, hr⟩ := div_l1 (d := d') (U := (U * 4294967296 + d) % Y) (q1 := (U * 4294967296 + d) / Y) hn hs hd.1 hd.2 4294967296 _ _ (by have := (Guess.start (d := d') hn t0 t1 e0 e1).r0; omega) (Guess.start hn t0 t1 e0 e1) (start_size hn t0 t1).2.1
  refine ⟨r, ?_⟩
  rw [Int.tdiv_eq_ediv_of_nonneg u0, uw z1 z2, uw z3 (by omega), uw (show 0 ≤ U - U / y1 * y1 by omega) (by omega)]
  refine div_l0 (R := _) hn ?_ 4294967296 _ _ (by have := (Guess.start (d := d) hn u0 u1 d0 d1).r0; omega) (Guess.start hn u0 u1 d0 d1) z2
  refine Ev.step (fun k => bits_Div64.j2.eq_2 ..) (ev_no (by omega) ?_)
  have hl := left_of (q := (U * 4294967296 + d) / Y) hlo hhi rfl
  rw [hl]
  obtain ⟨x1, x2, x3, x4⟩ := start_size hn t0 t1
  rw [Int.tdiv_eq_ediv_of_nonneg t0, uw x1 x2, uw x3 (by omega), uw (show 0 ≤ (U * 4294967296 + d) % Y - (U * 4294967296 + d) % Y / y1 * y1 by omega) (by omega)]
  refine ev_eq hr ?_
  congr 1
  have e : U * 18446744073709551616 + d * 4294967296 + d' = ((U * 4294967296 + d) % Y * 4294967296 + d') + Y * ((U * 4294967296 + d) / Y * 4294967296) := by
    have h := Int.emod_add_mul_ediv (U * 4294967296 + d) Y
    rw [← Int.mul_assoc]
    generalize Y * ((U * 4294967296 + d) / Y) = P at *
    omega
  rw [e, Int.add_mul_ediv_left _ _ (show Y ≠ 0 by omega)]
  omega
end Go.Proofs.Ytnppfagghpjkpaa.Num
