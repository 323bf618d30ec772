/- Plain number theory: lists of divisors; the reduction to the order. No program. -/
import Derived.Test.YtnppfagghpjkpaaT4
namespace Go.Proofs.Ytnppfagghpjkpaa.Num
set_option linter.unusedVariables false

/-- All divisors of N, ascending. -/
structure IsDivs (N : Nat) (L : List Nat) : Prop where
  asc : L.Pairwise (· < ·)
  mem : ∀ x, x ∈ L ↔ 1 ≤ x ∧ x ∣ N

theorem asc_unique : ∀ {L M : List Nat}, L.Pairwise (· < ·) → M.Pairwise (· < ·) → (∀ x, x ∈ L ↔ x ∈ M) → L = M := by
  intro L
  induction L with
  | nil =>
    intro M _ _ h
    cases M with
    | nil => rfl
    | cons y M => have := (h y).2 (by simp); simp at this
  | cons x L ih =>
    intro M h1 h2 h
    cases M with
    | nil => have := (h x).1 (by simp); simp at this
    | cons y M =>
      obtain ⟨a1, a2⟩ := List.pairwise_cons.1 h1
      obtain ⟨b1, b2⟩ := List.pairwise_cons.1 h2
      have hxy : x = y := by
        rcases List.mem_cons.1 ((h x).1 (by simp)) with e | e
        · exact e
        · rcases List.mem_cons.1 ((h y).2 (by simp)) with e' | e'
          · exact e'.symm
          · have := a1 y e'; have := b1 x e; omega
      subst hxy
      congr 1
      refine ih a2 b2 fun z => ?_
      constructor
      · intro hz
        rcases List.mem_cons.1 ((h z).1 (by simp [hz])) with e | e
        · have := a1 z hz; omega
        · exact e
      · intro hz
        rcases List.mem_cons.1 ((h z).2 (by simp [hz])) with e | e
        · have := b1 z hz; omega
        · exact e
theorem IsDivs.unique {N : Nat} {L M : List Nat} (h : IsDivs N L) (k : IsDivs N M) : L = M :=
  asc_unique h.asc k.asc fun x => by rw [h.mem, k.mem]

/-- The state of the search for divisors: those below d, and their partners. -/
structure DInv (N d : Nat) (lo hi : List Nat) : Prop where
  one : 1 ≤ d
  sq : ∀ e, e < d → e * e ≤ N
  asc : lo.Pairwise (· < ·)
  mem : ∀ x, x ∈ lo ↔ 1 ≤ x ∧ x < d ∧ x ∣ N
  desc : hi.Pairwise (· > ·)
  mem' : ∀ y, y ∈ hi ↔ y ∣ N ∧ 1 ≤ N / y ∧ N / y < d ∧ N / y < y
  llen : lo.length + 1 ≤ d
  hlen : hi.length + 1 ≤ d
theorem DInv.start (N : Nat) : DInv N 1 [] [] := by
  refine ⟨Nat.le_refl _, fun e he => ?_, by simp, fun x => ?_, by simp, fun y => ?_, by simp, by simp⟩
  · obtain rfl : e = 0 := by omega
    omega
  · simp; omega
  · constructor
    · intro h; simp at h
    · rintro ⟨_, b, c, _⟩; omega
theorem sq_next {N d : Nat} (h : ∀ e, e < d → e * e ≤ N) (hd : d * d ≤ N) : ∀ e, e < d + 1 → e * e ≤ N := by
  intro e he
  rcases Nat.lt_or_ge e d with h1 | h1
  · exact h e h1
  · obtain rfl : e = d := by omega
    exact hd
theorem DInv.skip {N d : Nat} {lo hi : List Nat} (h : DInv N d lo hi) (hN : 1 ≤ N) (hd : d * d ≤ N) (hn : ¬ d ∣ N) : DInv N (d + 1) lo hi := by
  have h1 := h.one
  refine ⟨by omega, sq_next h.sq hd, h.asc, fun x => ?_, h.desc, fun y => ?_, by have := h.llen; omega, by have := h.hlen; omega⟩
  · rw [h.mem]
    constructor
    · rintro ⟨a, b, c⟩; exact ⟨a, by omega, c⟩
    · rintro ⟨a, b, c⟩
      refine ⟨a, ?_, c⟩
      rcases Nat.lt_or_ge x d with h2 | h2
      · exact h2
      · obtain rfl : x = d := by omega
        exact absurd c hn
  · rw [h.mem']
    constructor
    · rintro ⟨a, b, c, e⟩; exact ⟨a, b, by omega, e⟩
    · rintro ⟨a, b, c, e⟩
      refine ⟨a, b, ?_, e⟩
      rcases Nat.lt_or_ge (N / y) d with h2 | h2
      · exact h2
      · have h3 : N / y = d := by omega
        exact absurd (⟨y, by rw [← h3, Nat.div_mul_cancel a]⟩ : d ∣ N) hn
theorem asc_snoc {lo : List Nat} {d : Nat} (h : lo.Pairwise (· < ·)) (hb : ∀ x ∈ lo, x < d) : (lo ++ [d]).Pairwise (· < ·) := by
  rw [List.pairwise_append]
  exact ⟨h, by simp, fun a ha b hb' => by simp at hb'; subst hb'; exact hb a ha⟩
theorem desc_snoc {lo : List Nat} {d : Nat} (h : lo.Pairwise (· > ·)) (hb : ∀ x ∈ lo, d < x) : (lo ++ [d]).Pairwise (· > ·) := by
  rw [List.pairwise_append]
  exact ⟨h, by simp, fun a ha b hb' => by simp at hb'; subst hb'; exact hb a ha⟩
theorem DInv.hit {N d : Nat} {lo hi : List Nat} (h : DInv N d lo hi) (hN : 1 ≤ N) (hd : d * d ≤ N) (hn : d ∣ N) : DInv N (d + 1) (lo ++ [d]) (if d = N / d then hi else hi ++ [N / d]) := by
  have h1 := h.one
  have hdd : N / (N / d) = d := Nat.div_div_self hn (by omega)
  have hle : d ≤ N / d := (Nat.le_div_iff_mul_le (by omega)).2 hd
  have hlo : ∀ x, x ∈ lo ++ [d] ↔ 1 ≤ x ∧ x < d + 1 ∧ x ∣ N := by
    intro x
    rw [List.mem_append, h.mem, List.mem_singleton]
    constructor
    · rintro (⟨a, b, c⟩ | rfl)
      · exact ⟨a, by omega, c⟩
      · exact ⟨h1, by omega, hn⟩
    · rintro ⟨a, b, c⟩
      rcases Nat.lt_or_ge x d with h2 | h2
      · exact .inl ⟨a, h2, c⟩
      · exact .inr (by omega)
  refine ⟨by omega, sq_next h.sq hd, asc_snoc h.asc (fun x hx => ((h.mem x).1 hx).2.1), hlo, ?_, ?_, by simp; have := h.llen; omega, ?_⟩
  · split
    · exact h.desc
    · refine desc_snoc h.desc fun y hy => ?_
      obtain ⟨a, b, c, e⟩ := (h.mem' y).1 hy
      rcases Nat.lt_or_ge (N / d) y with h2 | h2
      · exact h2
      · have h3 : N / y * y < d * (N / d) := by
          refine Nat.lt_of_lt_of_le (Nat.mul_lt_mul_of_pos_right c (by omega)) (Nat.mul_le_mul_left d h2)
        rw [Nat.div_mul_cancel a, Nat.mul_div_cancel' hn] at h3
        omega
  · intro y
    split
    · rename_i he
      rw [h.mem']
      constructor
      · rintro ⟨a, b, c, e⟩; exact ⟨a, b, by omega, e⟩
      · rintro ⟨a, b, c, e⟩
        refine ⟨a, b, ?_, e⟩
        rcases Nat.lt_or_ge (N / y) d with h2 | h2
        · exact h2
        · have h3 : N / y = d := by omega
          have h4 : N / (N / y) = y := Nat.div_div_self a (by omega)
          rw [h3] at h4; omega
    · rename_i he
      rw [List.mem_append, h.mem', List.mem_singleton]
      constructor
      · rintro (⟨a, b, c, e⟩ | rfl)
        · exact ⟨a, b, by omega, e⟩
        · rw [hdd]
          exact ⟨Nat.div_dvd_of_dvd hn, by omega, by omega, by omega⟩
      · rintro ⟨a, b, c, e⟩
        rcases Nat.lt_or_ge (N / y) d with h2 | h2
        · exact .inl ⟨a, b, h2, e⟩
        · have h3 : N / y = d := by omega
          have h4 : N / (N / y) = y := Nat.div_div_self a (by omega)
          exact .inr (by rw [← h4, h3])
  · have := h.hlen
    split
    · omega
    · simp; omega
theorem DInv.done {N d : Nat} {lo hi : List Nat} (h : DInv N d lo hi) (hN : 1 ≤ N) (hd : ¬ d * d ≤ N) : IsDivs N (lo ++ hi.reverse) := by
  have h1 := h.one
  refine ⟨?_, fun x => ?_⟩
  · rw [List.pairwise_append, List.pairwise_reverse]
    refine ⟨h.asc, h.desc.imp (fun h => h), fun a ha b hb => ?_⟩
    obtain ⟨a1, a2, a3⟩ := (h.mem a).1 ha
    obtain ⟨b1, b2, b3, b4⟩ := (h.mem' b).1 (by simpa using hb)
    have k1 := h.sq a a2
    have k2 : N < b * b := by
      have := Nat.mul_lt_mul_of_pos_right b4 (show 0 < b by omega)
      rwa [Nat.div_mul_cancel b1] at this
    rcases Nat.lt_or_ge a b with h2 | h2
    · exact h2
    · have := Nat.mul_le_mul h2 h2; omega
  · rw [List.mem_append, List.mem_reverse, h.mem, h.mem']
    constructor
    · rintro (⟨a, b, c⟩ | ⟨a, b, c, e⟩)
      · exact ⟨a, c⟩
      · exact ⟨by omega, a⟩
    · rintro ⟨a, b⟩
      rcases Nat.lt_or_ge x d with h2 | h2
      · exact .inl ⟨a, h2, b⟩
      · right
        have k := Nat.div_mul_cancel b
        have k2 : d * d ≤ x * x := Nat.mul_le_mul h2 h2
        have k3 : d * d ≤ d * x := Nat.mul_le_mul_left d h2
        refine ⟨b, Nat.div_pos (Nat.le_of_dvd hN b) (by omega), ?_, ?_⟩
        · rcases Nat.lt_or_ge (N / x) d with h3 | h3
          · exact h3
          · have := Nat.mul_le_mul_right x h3; omega
        · rcases Nat.lt_or_ge (N / x) x with h3 | h3
          · exact h3
          · have := Nat.mul_le_mul_right x h3; omega

/-! ### the reduction to the order -/
theorem not_pow_succ {N : Nat} {A B : List (Nat × Nat)} {x : Nat × Nat} (h : IsFac N (A ++ x :: B)) : ¬ x.1 ^ (x.2 + 1) ∣ N := by
  intro hd
  have hx := h.prime x (by simp)
  have h2 := hx.1.two
  have hmul : ∀ A B : List (Nat × Nat), fprod (A ++ B) = fprod A * fprod B := by
    intro A B
    induction A with
    | nil => simp [fprod]
    | cons y A ih => simp only [List.cons_append, fprod, ih]; ac_rfl
  have hN : N = x.1 ^ x.2 * (fprod A * fprod B) := by rw [← h.prod, hmul]; simp only [fprod]; ac_rfl
  rw [hN, Nat.pow_succ] at hd
  have h3 : x.1 ∣ fprod A * fprod B := Nat.dvd_of_mul_dvd_mul_left (Nat.pow_pos (by omega)) hd
  obtain ⟨p1, p2, p3⟩ := List.pairwise_append.1 h.asc
  rcases pr_dvd_mul hx.1 h3 with h4 | h4
  · obtain ⟨y, hy, e⟩ := pr_dvd_fprod hx.1 (fun y hy => h.prime y (by simp [hy])) h4
    have := p3 y hy x (by simp); omega
  · obtain ⟨y, hy, e⟩ := pr_dvd_fprod hx.1 (fun y hy => h.prime y (by simp [hy])) h4
    have := (List.pairwise_cons.1 p2).1 y hy; omega

/-- Between two primes: o the order, x the exponent, N what the exponent was at first. -/
structure OInv (N o x : Nat) (A B : List (Nat × Nat)) : Prop where
  o1 : 1 ≤ o
  ox : o ∣ x
  xN : x ∣ N
  done : ∀ y ∈ A, ¬ y.1 * o ∣ x
  left : ∀ y ∈ B, y.1 ^ y.2 ∣ x
/-- Within one prime y, after j divisions. -/
structure PInv (N o x j : Nat) (A B : List (Nat × Nat)) (y : Nat × Nat) : Prop where
  o1 : 1 ≤ o
  ox : o ∣ x
  xN : x * y.1 ^ j ∣ N
  j1 : j ≤ y.2
  yx : y.1 ^ (y.2 - j) ∣ x
  done : ∀ z ∈ A, ¬ z.1 * o ∣ x
  left : ∀ z ∈ B, z.1 ^ z.2 ∣ x
theorem OInv.open {N o x : Nat} {A B : List (Nat × Nat)} {y : Nat × Nat} (h : OInv N o x A (y :: B)) : PInv N o x 0 A B y :=
  ⟨h.o1, h.ox, by simpa using h.xN, by omega, by simpa using h.left y (by simp), h.done, fun z hz => h.left z (by simp [hz])⟩
theorem PInv.dvd {N o x j : Nat} {A B : List (Nat × Nat)} {y : Nat × Nat} (h : PInv N o x j A B y) (hj : j < y.2) : y.1 ∣ x := by
  exact Nat.dvd_trans (dvd_pow_pos _ (by omega)) h.yx
theorem PInv.shut {N o x j : Nat} {A B : List (Nat × Nat)} {y : Nat × Nat} (h : PInv N o x j A B y) (hn : ¬ y.1 * o ∣ x) : OInv N o x (A ++ [y]) B := by
  refine ⟨h.o1, h.ox, Nat.dvd_trans (Nat.dvd_mul_right _ _) h.xN, fun z hz => ?_, h.left⟩
  rcases List.mem_append.1 hz with hz | hz
  · exact h.done z hz
  · obtain rfl : z = y := by simpa using hz
    exact hn
theorem PInv.last {N o x j : Nat} {A B : List (Nat × Nat)} {y : Nat × Nat} (h : PInv N o x j A B y) (hf : IsFac N (A ++ y :: B)) (hj : j = y.2) : OInv N o x (A ++ [y]) B := by
  refine h.shut fun hd => not_pow_succ hf ?_
  have h1 : y.1 ∣ x := Nat.dvd_trans (Nat.dvd_mul_right _ _) hd
  subst hj
  rw [Nat.pow_succ, Nat.mul_comm]
  exact Nat.dvd_trans (Nat.mul_dvd_mul_right h1 _) h.xN
theorem PInv.stop {N o x j : Nat} {A B : List (Nat × Nat)} {y : Nat × Nat} (h : PInv N o x j A B y) (h2 : 2 ≤ y.1) (hn : ¬ o ∣ x / y.1) : OInv N o x (A ++ [y]) B := by
  refine h.shut fun hd => hn ?_
  obtain ⟨c, rfl⟩ := hd
  rw [Nat.mul_assoc, Nat.mul_div_cancel_left _ (by omega)]
  exact Nat.dvd_mul_right _ _
theorem PInv.next {N o x j : Nat} {A B : List (Nat × Nat)} {y : Nat × Nat} (h : PInv N o x j A B y) (hy : Pr y.1) (hB : ∀ z ∈ B, Pr z.1 ∧ y.1 < z.1) (hj : j < y.2) (hd : o ∣ x / y.1) : PInv N o (x / y.1) (j + 1) A B y := by
  have hyx := h.dvd hj
  have h2 := hy.two
  have e : y.1 * (x / y.1) = x := Nat.mul_div_cancel' hyx
  refine ⟨h.o1, hd, ?_, by omega, ?_, fun z hz hc => h.done z hz (Nat.dvd_trans hc (Nat.div_dvd_of_dvd hyx)), fun z hz => ?_⟩
  · rw [Nat.pow_succ, Nat.mul_comm _ y.1, ← Nat.mul_assoc, Nat.mul_comm _ y.1, e]
    exact h.xN
  · have h3 := h.yx
    rw [show y.2 - j = (y.2 - (j + 1)) + 1 by omega, Nat.pow_succ, Nat.mul_comm] at h3
    rw [← e] at h3
    exact Nat.dvd_of_mul_dvd_mul_left (by omega) h3
  · have h3 := h.left z hz
    obtain ⟨hz1, hz2⟩ := hB z hz
    rw [← e] at h3
    refine Nat.Coprime.dvd_of_dvd_mul_left (Nat.Coprime.pow_left _ (pr_coprime hz1 fun hc => ?_)) h3
    rcases pr_dvd hy hc with h4 | h4
    · have := hz1.two; omega
    · omega
theorem OInv.fin {N o x : Nat} {A : List (Nat × Nat)} (h : OInv N o x A []) (hN : 1 ≤ N) (hf : IsFac N A) : x = o := by
  obtain ⟨c, rfl⟩ := h.ox
  have hx := h.xN
  rcases Nat.lt_or_ge c 2 with h1 | h1
  · rcases Nat.eq_zero_or_pos c with h0 | h0
    · subst h0
      have := Nat.eq_zero_of_zero_dvd (by simpa using hx : 0 ∣ N); omega
    · obtain rfl : c = 1 := by omega
      omega
  · obtain ⟨q, hq, hd⟩ := exists_pr h1
    have h3 : q ∣ fprod A := by rw [hf.prod]; exact Nat.dvd_trans hd (Nat.dvd_trans (Nat.dvd_mul_left _ _) hx)
    obtain ⟨y, hy, rfl⟩ := pr_dvd_fprod hq hf.prime h3
    refine absurd ?_ (h.done y hy)
    rw [Nat.mul_comm]
    exact Nat.mul_dvd_mul_left o hd
theorem OInv.start {N o : Nat} {L : List (Nat × Nat)} (h1 : 1 ≤ o) (hd : o ∣ N) (hf : IsFac N L) : OInv N o N [] L :=
  ⟨h1, hd, Nat.dvd_refl _, by simp, fun y hy => by have := dvd_fprod hy; rwa [hf.prod] at this⟩
end Go.Proofs.Ytnppfagghpjkpaa.Num
