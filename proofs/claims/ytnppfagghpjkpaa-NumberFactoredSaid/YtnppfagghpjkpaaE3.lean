/- What both Chinese answer. -/
import Derived.Test.YtnppfagghpjkpaaE2
import Derived.Test.YtnppfagghpjkpaaNumx10
import Derived.Test.YtnppfagghpjkpaaNumx3
namespace Go.Proofs.Ytnppfagghpjkpaa.Num
set_option linter.unusedVariables false
open Go.RowKit Go.Proofs.YtnppfagghpjkpaaW.PrintWords

abbrev MaxN : Int := 2147483647
theorem rd_nat (l : List Int) (i : Nat) (h : i < l.length) : rd l (i : Int) = l[i] := by simp [rd, List.getD_eq_getElem?_getD, h]
theorem lprod_drop (l : List Int) (i : Nat) (h : i < l.length) : lprod (l.drop i) = rd l (i : Int) * lprod (l.drop (i + 1)) := by
  rw [List.drop_eq_getElem_cons h, rd_nat l i h]; rfl
theorem lprod_split (l : List Int) (i : Nat) : lprod l = lprod (l.take i) * lprod (l.drop i) := by rw [← lprod_append, List.take_append_drop]
def Good (ms : List Int) : Prop := ∀ x ∈ ms, 1 ≤ x ∧ x ≤ 2147483647
theorem Good.at {ms : List Int} (h : Good ms) (i : Nat) (hi : i < ms.length) : 1 ≤ rd ms (i : Int) ∧ rd ms (i : Int) ≤ 2147483647 := by
  rw [rd_nat ms i hi]; exact h _ (List.getElem_mem hi)
theorem Good.pos {ms : List Int} (h : Good ms) : ∀ x ∈ ms, 1 ≤ x := fun x hx => (h x hx).1
theorem Good.take_pos {ms : List Int} (h : Good ms) (i : Nat) : 1 ≤ lprod (ms.take i) := lprod_pos _ fun x hx => h.pos x (List.mem_of_mem_take hx)
theorem Good.drop_pos {ms : List Int} (h : Good ms) (i : Nat) : 1 ≤ lprod (ms.drop i) := lprod_pos _ fun x hx => h.pos x (List.mem_of_mem_drop hx)

/-! the first loop -/
theorem cn0_good {rs ms : List Int} {R : Int × Int × Int} (hg : Good ms) (hl : ms.length ≤ 100) (H : Ev (fun k => number_Chinese.l1 k rs ms 1 ms (ms.length : Int) 0) R) :
    ∀ (d i : Nat), i + d = ms.length → Ev (fun k => number_Chinese.l0 k rs ms ms (ms.length : Int) (i : Int)) R := by
  intro d
  induction d with
  | zero => intro i hi; exact Ev.step (fun k => number_Chinese.l0.eq_2 ..) (ev_no (by omega) H)
  | succ d ih =>
    intro i hi
    have hb := hg.at i (by omega)
    refine Ev.step (fun k => number_Chinese.l0.eq_2 ..) (ev_yes (by omega) (ev_yes (by omega) (ev_yes (by omega) (ev_let (in_yes hb.1 hb.2) (ev_yes rfl ?_)))))
    rw [w64 (by omega) (by omega)]
    exact ih (i + 1) (by omega)
theorem cn0_bad {rs ms : List Int} (hl : ms.length ≤ 100) : ∀ (d i : Nat), i + d = ms.length → (∃ j, i ≤ j ∧ j < ms.length ∧ (rd ms (j : Int) < 1 ∨ 2147483647 < rd ms (j : Int))) → Ev (fun k => number_Chinese.l0 k rs ms ms (ms.length : Int) (i : Int)) (0, 0, 6) := by
  intro d
  induction d with
  | zero => rintro i hi ⟨j, h1, h2, _⟩; omega
  | succ d ih =>
    rintro i hi ⟨j, h1, h2, h3⟩
    by_cases hb : rd ms (i : Int) < 1 ∨ 2147483647 < rd ms (i : Int)
    · exact Ev.step (fun k => number_Chinese.l0.eq_2 ..) (ev_yes (by omega) (ev_yes (by omega) (ev_yes (by omega) (ev_let (in1_no hb) (ev_no (by simp) (Ev.now _))))))
    · refine Ev.step (fun k => number_Chinese.l0.eq_2 ..) (ev_yes (by omega) (ev_yes (by omega) (ev_yes (by omega) (ev_let (in_yes (by omega) (by omega)) (ev_yes rfl ?_)))))
      rw [w64 (by omega) (by omega)]
      refine ih (i + 1) (by omega) ⟨j, ?_, h2, h3⟩
      rcases Nat.eq_or_lt_of_le h1 with h | h
      · subst h; exact absurd h3 hb
      · omega
theorem cr0_good {rs ms : List Int} {R : Int × Int × Int} (hg : Good ms) (hl : ms.length ≤ 100) (H : Ev (fun k => codewrightref03_Chinese.l1 k rs ms 1 0) R) :
    ∀ (d i : Nat), i + d = ms.length → Ev (fun k => codewrightref03_Chinese.l0 k rs ms (i : Int)) R := by
  intro d
  induction d with
  | zero => intro i hi; exact Ev.step (fun k => codewrightref03_Chinese.l0.eq_2 ..) (ev_no (by omega) H)
  | succ d ih =>
    intro i hi
    have hb := hg.at i (by omega)
    refine Ev.step (fun k => codewrightref03_Chinese.l0.eq_2 ..) (ev_yes (by omega) (ev_yes (by omega) (ev_let (rin_yes hb.1 hb.2) (ev_yes rfl ?_))))
    rw [w64 (by omega) (by omega)]
    exact ih (i + 1) (by omega)
theorem cr0_bad {rs ms : List Int} (hl : ms.length ≤ 100) : ∀ (d i : Nat), i + d = ms.length → (∃ j, i ≤ j ∧ j < ms.length ∧ (rd ms (j : Int) < 1 ∨ 2147483647 < rd ms (j : Int))) → Ev (fun k => codewrightref03_Chinese.l0 k rs ms (i : Int)) (0, 0, 6) := by
  intro d
  induction d with
  | zero => rintro i hi ⟨j, h1, h2, _⟩; omega
  | succ d ih =>
    rintro i hi ⟨j, h1, h2, h3⟩
    by_cases hb : rd ms (i : Int) < 1 ∨ 2147483647 < rd ms (i : Int)
    · exact Ev.step (fun k => codewrightref03_Chinese.l0.eq_2 ..) (ev_yes (by omega) (ev_yes (by omega) (ev_let (rin_no hb) (ev_no (by simp) (Ev.now _)))))
    · refine Ev.step (fun k => codewrightref03_Chinese.l0.eq_2 ..) (ev_yes (by omega) (ev_yes (by omega) (ev_let (rin_yes (by omega) (by omega)) (ev_yes rfl ?_))))
      rw [w64 (by omega) (by omega)]
      refine ih (i + 1) (by omega) ⟨j, ?_, h2, h3⟩
      rcases Nat.eq_or_lt_of_le h1 with h | h
      · subst h; exact absurd h3 hb
      · omega

/-! the second loop -/
theorem big_div {a m : Int} (ha : 1 ≤ a) (hm : 1 ≤ m) : (a > (2147483647 : Int) / m) ↔ 2147483647 < a * m := Int.ediv_lt_iff_lt_mul (by omega)
theorem div_small {m : Int} (hm : 1 ≤ m) : 0 ≤ (2147483647 : Int) / m ∧ (2147483647 : Int) / m ≤ 2147483647 := ⟨Int.ediv_nonneg (by omega) (by omega), Int.ediv_le_self _ (by omega)⟩
theorem cn1_small {rs ms : List Int} {R : Int × Int × Int} (hg : Good ms) (hl : ms.length ≤ 100) (hp : lprod ms ≤ 2147483647) (H : Ev (fun k => number_Chinese.l2 k rs (lprod ms) 0 1 ms (ms.length : Int) 0) R) :
    ∀ (d i : Nat), i + d = ms.length → Ev (fun k => number_Chinese.l1 k rs ms (lprod (ms.take i)) ms (ms.length : Int) (i : Int)) R := by
  intro d
  induction d with
  | zero =>
    intro i hi
    rw [List.take_of_length_le (by omega)]
    exact Ev.step (fun k => number_Chinese.l1.eq_2 ..) (ev_no (by omega) H)
  | succ d ih =>
    intro i hi
    have hb := hg.at i (by omega)
    have h1 := hg.take_pos i
    have h2 := lprod_take ms i (by omega)
    have h3 := lprod_take_le ms (i + 1) hg.pos
    have h4 := div_small hb.1
    refine Ev.step (fun k => number_Chinese.l1.eq_2 ..) (ev_yes (by omega) (ev_yes (by omega) (ev_yes (by omega) (ev_no (by omega) (ev_no ?_ ?_)))))
    · rw [tdiv_pos (by omega), w64 (by omega) (by omega), big_div h1 hb.1, ← h2]; omega
    · rw [← h2, w64 (by have := hg.take_pos (i + 1); omega) (by omega), w64 (by omega) (by omega)]
      exact ih (i + 1) (by omega)
theorem cn1_big {rs ms : List Int} (hg : Good ms) (hl : ms.length ≤ 100) (hp : 2147483647 < lprod ms) :
    ∀ (d i : Nat), i + d = ms.length → lprod (ms.take i) ≤ 2147483647 → Ev (fun k => number_Chinese.l1 k rs ms (lprod (ms.take i)) ms (ms.length : Int) (i : Int)) (0, 0, 8) := by
  intro d
  induction d with
  | zero =>
    intro i hi hle
    rw [List.take_of_length_le (by omega)] at hle
    omega
  | succ d ih =>
    intro i hi hle
    have hb := hg.at i (by omega)
    have h1 := hg.take_pos i
    have h2 := lprod_take ms i (by omega)
    have h4 := div_small hb.1
    refine Ev.step (fun k => number_Chinese.l1.eq_2 ..) (ev_yes (by omega) (ev_yes (by omega) (ev_yes (by omega) (ev_no (by omega) ?_))))
    rw [tdiv_pos (by omega), w64 (show -9223372036854775808 ≤ (2147483647 : Int) / rd ms (i : Int) by omega) (by omega)]
    by_cases h5 : lprod (ms.take i) > (2147483647 : Int) / rd ms (i : Int)
    · exact ev_yes h5 (Ev.now _)
    · refine ev_no h5 ?_
      rw [big_div h1 hb.1, ← h2] at h5
      rw [← h2, w64 (by have := hg.take_pos (i + 1); omega) (by omega), w64 (by omega) (by omega)]
      exact ih (i + 1) (by omega) (by omega)
theorem cr1_small {rs ms : List Int} {R : Int × Int × Int} (hg : Good ms) (hl : ms.length ≤ 100) (hp : lprod ms ≤ 2147483647) (H : Ev (fun k => codewrightref03_Chinese.l2 k rs ms 1 0 0) R) :
    ∀ (d i : Nat), i + d = ms.length → Ev (fun k => codewrightref03_Chinese.l1 k rs ms (lprod (ms.take i)) (i : Int)) R := by
  intro d
  induction d with
  | zero =>
    intro i hi
    exact Ev.step (fun k => codewrightref03_Chinese.l1.eq_2 ..) (ev_no (by omega) H)
  | succ d ih =>
    intro i hi
    have hb := hg.at i (by omega)
    have h1 := hg.take_pos i
    have h2 := lprod_take ms i (by omega)
    have h3 := lprod_take_le ms (i + 1) hg.pos
    have h4 := div_small hb.1
    refine Ev.step (fun k => codewrightref03_Chinese.l1.eq_2 ..) (ev_yes (by omega) (ev_yes (by omega) (ev_no (by omega) (ev_no ?_ ?_))))
    · rw [tdiv_pos (by omega), w64 (by omega) (by omega), big_div h1 hb.1, ← h2]; omega
    · rw [← h2, w64 (by have := hg.take_pos (i + 1); omega) (by omega), w64 (by omega) (by omega)]
      exact ih (i + 1) (by omega)
theorem cr1_big {rs ms : List Int} (hg : Good ms) (hl : ms.length ≤ 100) (hp : 2147483647 < lprod ms) :
    ∀ (d i : Nat), i + d = ms.length → lprod (ms.take i) ≤ 2147483647 → Ev (fun k => codewrightref03_Chinese.l1 k rs ms (lprod (ms.take i)) (i : Int)) (0, 0, 8) := by
  intro d
  induction d with
  | zero =>
    intro i hi hle
    rw [List.take_of_length_le (by omega)] at hle
    omega
  | succ d ih =>
    intro i hi hle
    have hb := hg.at i (by omega)
    have h1 := hg.take_pos i
    have h2 := lprod_take ms i (by omega)
    have h4 := div_small hb.1
    refine Ev.step (fun k => codewrightref03_Chinese.l1.eq_2 ..) (ev_yes (by omega) (ev_yes (by omega) (ev_no (by omega) ?_)))
    rw [tdiv_pos (by omega), w64 (show -9223372036854775808 ≤ (2147483647 : Int) / rd ms (i : Int) by omega) (by omega)]
    by_cases h5 : lprod (ms.take i) > (2147483647 : Int) / rd ms (i : Int)
    · exact ev_yes h5 (Ev.now _)
    · refine ev_no h5 ?_
      rw [big_div h1 hb.1, ← h2] at h5
      rw [← h2, w64 (by have := hg.take_pos (i + 1); omega) (by omega), w64 (by omega) (by omega)]
      exact ih (i + 1) (by omega) (by omega)

/-! the third loop -/
/-- One congruence more. -/
theorem crt_step {x n r m y : Int} (hx0 : 0 ≤ x) (hx1 : x < n) (hn : 1 ≤ n) (hm : 1 ≤ m) (hnm : n * m ≤ 2147483647) (hy : IsHalf (n % m) m 1 y) :
    let t := (r % m - x % m) % m * y % m
    0 ≤ t ∧ t < m ∧ 0 ≤ x + n * t ∧ x + n * t < n * m ∧ n ∣ (x + n * t) - x ∧ (x + n * t) % m = r % m := by
  intro t
  have ht0 : 0 ≤ t := Int.emod_nonneg _ (by omega)
  have ht1 : t < m := Int.emod_lt_of_pos _ (by omega)
  have hnt : 0 ≤ n * t := Int.mul_nonneg (by omega) ht0
  have hnt2 : n * t ≤ n * (m - 1) := Int.mul_le_mul_of_nonneg_left (by omega) (by omega)
  have e : n * (m - 1) = n * m - n := by rw [Int.mul_sub, Int.mul_one]
  refine ⟨ht0, ht1, by omega, by omega, ⟨t, by omega⟩, ?_⟩
  -- n y ~ 1
  have h1 : m ∣ n * y - 1 := by
    obtain ⟨q, hq⟩ := hy.dvd
    have : n = n % m + m * (n / m) := by have := Int.emod_add_mul_ediv n m; omega
    refine ⟨q + n / m * y, ?_⟩
    rw [Int.mul_add, ← hq, ← Int.mul_assoc]
    have e2 : n * y = n % m * y + m * (n / m) * y := by rw [← Int.add_mul, ← this]
    omega
  have h2 : m ∣ (r % m - x % m) * (n * y - 1) := Int.dvd_trans h1 (Int.dvd_mul_left _ _)
  have h3 : (n * t) % m = (r % m - x % m) % m := by
    show (n * ((r % m - x % m) % m * y % m)) % m = _
    rw [Int.mul_emod, Int.emod_emod_of_dvd _ (Int.dvd_refl m), ← Int.mul_emod]
    have e3 : n * ((r % m - x % m) % m * y) = (r % m - x % m) % m * (n * y) := by rw [← Int.mul_assoc, Int.mul_comm n, Int.mul_assoc]
    rw [e3, Int.mul_emod, Int.emod_emod_of_dvd _ (Int.dvd_refl m), ← Int.mul_emod]
    apply Int.emod_eq_emod_iff_emod_sub_eq_zero.2
    apply Int.emod_eq_zero_of_dvd
    rw [Int.mul_sub, Int.mul_one] at h2
    exact h2
  have e4 : x + (r % m - x % m) = r % m + m * (x / m) := by have := Int.emod_add_mul_ediv x m; omega
  rw [Int.add_emod, h3, ← Int.add_emod, e4, Int.add_mul_emod_self_left, Int.emod_emod_of_dvd _ (Int.dvd_refl m)]

/-- What the third loop answers from the place i on. -/
structure Third (rs ms : List Int) (i : Nat) (x n : Int) (R : Int × Int × Int) : Prop where
  err : R.2.2 = 0 ∨ R = (0, 0, 11)
  ok : R.2.2 = 0 → R.2.1 = lprod ms ∧ 0 ≤ R.1 ∧ R.1 < lprod ms ∧ n ∣ R.1 - x ∧ (∀ j, i ≤ j → j < ms.length → R.1 % rd ms (j : Int) = rd rs (j : Int) % rd ms (j : Int)) ∧
    ∀ z, n ∣ z - R.1 → (∀ j, i ≤ j → j < ms.length → rd ms (j : Int) ∣ z - R.1) → lprod ms ∣ z - R.1

theorem mul_dvd_of_gcd {a b c : Int} (h : Int.gcd a b = 1) (ha : a ∣ c) (hb : b ∣ c) : a * b ∣ c := by
  rw [← Int.natAbs_dvd_natAbs] at ha hb ⊢
  rw [Int.natAbs_mul]
  exact Nat.Coprime.mul_dvd_of_dvd_of_dvd h ha hb
theorem gcd_mod_left (a m : Int) : Int.gcd (a % m) m = Int.gcd a m := by
  rw [Int.emod_def, Int.gcd_sub_mul_left_left]

theorem third {rs ms : List Int} (hg : Good ms) (hl : ms.length ≤ 100) (hrl : rs.length = ms.length) (hp : lprod ms ≤ 2147483647) : ∀ (d i : Nat), i + d = ms.length → ∀ (x n : Int), 0 ≤ x → x < n → n = lprod (ms.take i) →
    ∃ R, Third rs ms i x n R ∧ Ev (fun k => number_Chinese.l2 k rs (lprod ms) x n ms (ms.length : Int) (i : Int)) R ∧ Ev (fun k => codewrightref03_Chinese.l2 k rs ms n x (i : Int)) R := by
  intro d
  induction d with
  | zero =>
    intro i hi x n hx0 hx1 hn
    rw [List.take_of_length_le (by omega)] at hn
    refine ⟨(x, lprod ms, 0), ⟨.inl rfl, fun _ => ⟨rfl, hx0, by omega, ⟨0, by omega⟩, fun j h1 h2 => by omega, fun z hz _ => by rw [← hn]; exact hz⟩⟩, ?_, ?_⟩
    · exact Ev.step (fun k => number_Chinese.l2.eq_2 ..) (ev_no (by omega) (Ev.now _))
    · rw [hn]
      exact Ev.step (fun k => codewrightref03_Chinese.l2.eq_2 ..) (ev_no (by omega) (Ev.now _))
  | succ d ih =>
    intro i hi x n hx0 hx1 hn
    have hb := hg.at i (by omega)
    have h1 := hg.take_pos i
    have h2 := lprod_take ms i (by omega)
    have h3 := lprod_take_le ms (i + 1) hg.pos
    rw [← hn] at h1 h2
    generalize hm : rd ms (i : Int) = m at *
    have hnn : n ≤ n * m := by have := Int.mul_le_mul_of_nonneg_left hb.1 (show 0 ≤ n by omega); omega
    have hnm0 := Int.emod_nonneg n (show m ≠ 0 by omega)
    have hnm1 := Int.emod_lt_of_pos n (show 0 < m by omega)
    obtain ⟨g, y, hev, hh⟩ := half_ev hnm0 (show n % m ≤ 2147483647 by omega) hb.1 hb.2
    obtain ⟨g', y', hev', hh'⟩ := inverse_ev n hb.1 hb.2
    obtain rfl : g = g' := by rw [hh.gcd, hh'.gcd]
    obtain rfl := hh.unique (by omega) hh'
    have hgg : g = (Nat.gcd n.toNat m.toNat : Int) := by
      rw [hh.gcd, gcd_mod_left, Int.gcd_eq_natAbs_gcd_natAbs]
      have e1 : n.natAbs = n.toNat := by omega
      have e2 : m.natAbs = m.toNat := by omega
      rw [e1, e2]
    have hgc := rgcd_ev n.toNat m.toNat
    rw [Int.toNat_of_nonneg (by omega), Int.toNat_of_nonneg (by omega), ← hgg] at hgc
    by_cases hg1 : g = 1
    · subst hg1
      obtain ⟨t0, t1, s0, s1, s2, s3⟩ := crt_step (r := rd rs (i : Int)) hx0 hx1 h1 hb.1 (by omega) hh
      generalize hT : (rd rs (i : Int) % m - x % m) % m * y % m = t at *
      obtain ⟨R, hR, hE1, hE2⟩ := ih (i + 1) (by omega) (x + n * t) (n * m) s0 s1 h2.symm
      have hy0 := hh.x0
      have hy1 := hh.x1
      rw [Int.ediv_one] at hy1
      have hr0 := Int.emod_nonneg (rd rs (i : Int)) (show m ≠ 0 by omega)
      have hr1 := Int.emod_lt_of_pos (rd rs (i : Int)) (show 0 < m by omega)
      have hxm0 := Int.emod_nonneg x (show m ≠ 0 by omega)
      have hxm1 := Int.emod_lt_of_pos x (show 0 < m by omega)
      have hd0 := Int.emod_nonneg (rd rs (i : Int) % m - x % m) (show m ≠ 0 by omega)
      have hd1 := Int.emod_lt_of_pos (rd rs (i : Int) % m - x % m) (show 0 < m by omega)
      obtain ⟨q1, q2⟩ := mul_small hd0 hd1 hy0 hy1 hb.2
      have hnt : 0 ≤ n * t := Int.mul_nonneg (by omega) t0
      refine ⟨R, ⟨hR.err, fun h0 => ?_⟩, ?_, ?_⟩
      · obtain ⟨k1, k2, k3, k4, k5, k6⟩ := hR.ok h0
        have hnx : n ∣ R.1 - x := by
          have := Int.dvd_add (Int.dvd_trans (Int.dvd_mul_right n m) k4) s2
          have e : R.1 - (x + n * t) + (x + n * t - x) = R.1 - x := by omega
          rwa [e] at this
        refine ⟨k1, k2, k3, hnx, fun j h4 h5 => ?_, fun z hz hzj => ?_⟩
        · rcases Nat.eq_or_lt_of_le h4 with h | h
          · subst h
            rw [hm, ← s3]
            apply Int.emod_eq_emod_iff_emod_sub_eq_zero.2
            exact Int.emod_eq_zero_of_dvd (Int.dvd_trans (Int.dvd_mul_left n m) k4)
          · exact k5 j (by omega) h5
        · refine k6 z ?_ (fun j h4 h5 => hzj j (by omega) h5)
          refine mul_dvd_of_gcd ?_ hz ?_
          · have := hh.gcd
            rw [gcd_mod_left] at this
            omega
          · have := hzj i (Nat.le_refl _) (by omega)
            rwa [hm] at this
      · refine Ev.step (fun k => number_Chinese.l2.eq_2 ..) (ev_yes (by omega) (ev_yes (by omega) (ev_yes (by omega) ?_)))
        rw [hm]
        refine ev_no (by omega) ?_
        rw [tmod_pos (show 0 ≤ n by omega)]
        refine Ev.bind hev (ev_yes rfl (ev_yes (by omega) ?_))
        refine ev_let (mod_some _ hb.1 hb.2) ?_
        rw [tmod_pos hx0, w64 (show -9223372036854775808 ≤ rd rs (i : Int) % m - x % m by omega) (by omega)]
        refine ev_let (mod_some _ hb.1 hb.2) ?_
        simp only
        rw [w64 (show -9223372036854775808 ≤ (rd rs (i : Int) % m - x % m) % m * y by omega) (by omega), tmod_pos q1, hT, w64 (show -9223372036854775808 ≤ n * t by omega) (by omega), w64 (show -9223372036854775808 ≤ x + n * t by omega) (by omega), w64 (show -9223372036854775808 ≤ n * m by omega) (by omega), w64 (show -9223372036854775808 ≤ (i : Int) + 1 by omega) (by omega)]
        exact hE1
      · refine Ev.step (fun k => codewrightref03_Chinese.l2.eq_2 ..) (ev_yes (by omega) (ev_yes (by omega) ?_))
        rw [hm]
        refine Ev.bind hgc (ev_yes rfl (ev_yes (by omega) ?_))
        refine ev_let (Mod_some _ hb.1 hb.2) (ev_let (Mod_some _ hb.1 hb.2) ?_)
        rw [w64 (show -9223372036854775808 ≤ rd rs (i : Int) % m - x % m by omega) (by omega)]
        refine ev_let (Mod_some _ hb.1 hb.2) (Ev.bind hev' ?_)
        rw [if_pos rfl]
        refine ev_no (by omega) ?_
        rw [w64 (show -9223372036854775808 ≤ (rd rs (i : Int) % m - x % m) % m * y by omega) (by omega), tmod_pos q1, hT, w64 (show -9223372036854775808 ≤ n * t by omega) (by omega), w64 (show -9223372036854775808 ≤ x + n * t by omega) (by omega), w64 (show -9223372036854775808 ≤ n * m by omega) (by omega), w64 (show -9223372036854775808 ≤ (i : Int) + 1 by omega) (by omega)]
        exact hE2
    · refine ⟨(0, 0, 11), ⟨.inr rfl, fun h0 => absurd h0 (by simp)⟩, ?_, ?_⟩
      · refine Ev.step (fun k => number_Chinese.l2.eq_2 ..) (ev_yes (by omega) (ev_yes (by omega) (ev_yes (by omega) ?_)))
        rw [hm]
        refine ev_no (by omega) ?_
        rw [tmod_pos (show 0 ≤ n by omega)]
        exact Ev.bind hev (ev_no hg1 (Ev.now _))
      · refine Ev.step (fun k => codewrightref03_Chinese.l2.eq_2 ..) (ev_yes (by omega) (ev_yes (by omega) ?_))
        rw [hm]
        exact Ev.bind hgc (ev_no hg1 (Ev.now _))

/-- Both Chinese answer one thing. -/
structure Crt (rs ms : List Int) (R : Int × Int × Int) : Prop where
  err : R.2.2 ≠ 0 → R.1 = 0 ∧ R.2.1 = 0
  ok : R.2.2 = 0 → rs.length = ms.length ∧ Good ms ∧ R.2.1 = lprod ms ∧ 0 ≤ R.1 ∧ R.1 < lprod ms ∧ (∀ j, j < ms.length → R.1 % rd ms (j : Int) = rd rs (j : Int) % rd ms (j : Int)) ∧
    ∀ z, (∀ j, j < ms.length → rd ms (j : Int) ∣ z - R.1) → lprod ms ∣ z - R.1
theorem chinese_both (rs ms : List Int) (hl : ms.length ≤ 100) : ∃ R, Crt rs ms R ∧ Ev (fun k => number_Chinese.f k rs ms) R ∧ Ev (fun k => codewrightref03_Chinese.f k rs ms) R := by
  unfold number_Chinese.f codewrightref03_Chinese.f
  by_cases hrl : rs.length = ms.length
  · by_cases hg : Good ms
    · by_cases hp : lprod ms ≤ 2147483647
      · obtain ⟨R, hR, h1, h2⟩ := third (rs := rs) hg hl hrl hp ms.length 0 (by omega) 0 1 (by omega) (by omega) rfl
        refine ⟨R, ⟨fun h => ?_, fun h => ?_⟩, ?_, ?_⟩
        · rcases hR.err with h0 | h0
          · exact absurd h0 h
          · rw [h0]; exact ⟨rfl, rfl⟩
        · obtain ⟨k1, k2, k3, k4, k5, k6⟩ := hR.ok h
          exact ⟨hrl, hg, k1, k2, k3, fun j hj => k5 j (Nat.zero_le _) hj, fun z hz => k6 z (Int.one_dvd _) (fun j _ hj => hz j hj)⟩
        · exact ev_yes (by omega) (cn0_good hg hl (by have := cn1_small (rs := rs) (R := R) hg hl hp h1 ms.length 0 (by omega); exact this) ms.length 0 (by omega))
        · exact ev_yes (by omega) (cr0_good hg hl (by have := cr1_small (rs := rs) (R := R) hg hl hp h2 ms.length 0 (by omega); exact this) ms.length 0 (by omega))
      · refine ⟨(0, 0, 8), ⟨fun _ => ⟨rfl, rfl⟩, fun h => absurd h (by simp)⟩, ?_, ?_⟩
        · exact ev_yes (by omega) (cn0_good hg hl (by have := cn1_big (rs := rs) hg hl (by omega) ms.length 0 (by omega) (by simp [lprod]); exact this) ms.length 0 (by omega))
        · exact ev_yes (by omega) (cr0_good hg hl (by have := cr1_big (rs := rs) hg hl (by omega) ms.length 0 (by omega) (by simp [lprod]); exact this) ms.length 0 (by omega))
    · have hbad : ∃ j, 0 ≤ j ∧ j < ms.length ∧ (rd ms (j : Int) < 1 ∨ 2147483647 < rd ms (j : Int)) := by
        apply Classical.byContradiction
        intro hno
        apply hg
        intro x hx
        obtain ⟨j, hj, rfl⟩ := List.getElem_of_mem hx
        have : ¬ (rd ms (j : Int) < 1 ∨ 2147483647 < rd ms (j : Int)) := fun h => hno ⟨j, Nat.zero_le _, hj, h⟩
        rw [rd_nat ms j hj] at this
        omega
      refine ⟨(0, 0, 6), ⟨fun _ => ⟨rfl, rfl⟩, fun h => absurd h (by simp)⟩, ?_, ?_⟩
      · exact ev_yes (by omega) (cn0_bad hl ms.length 0 (by omega) hbad)
      · exact ev_yes (by omega) (cr0_bad hl ms.length 0 (by omega) hbad)
  · exact ⟨(0, 0, 10), ⟨fun _ => ⟨rfl, rfl⟩, fun h => absurd h (by simp)⟩, ev_no (by omega) (Ev.now _), ev_no (by omega) (Ev.now _)⟩
end Go.Proofs.Ytnppfagghpjkpaa.Num
