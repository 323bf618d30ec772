/- Plain number theory: lists of divisors; the reduction to the order; the divisors as the program lists them, sums over them; numbers without a common divisor. No program. -/
import Derived.Test.YtnppfagghpjkpaaT4
namespace Go.Proofs.Ytnppfagghpjkpaa.Num
set_option linter.unusedVariables false

/-- All divisors of N, ascending. -/
structure IsDivs (N : Nat) (L : List Nat) : Prop where
  asc : L.Pairwise (· < ·)
  mem : ∀ x, x ∈ L ↔ 1 ≤ x ∧ x ∣ N

theorem asc_unique : ∀ {L M : List Nat}, L.Pairwise (· < ·) → M.Pairwise (· < ·) → (∀ x, x ∈ L ↔ x ∈ M) → L = M := by
  intro L
  induction L with
  | nil =>
    intro M _ _ h
    cases M with
    | nil => rfl
    | cons y M => have := (h y).2 (by simp); simp at this
  | cons x L ih =>
    intro M h1 h2 h
    cases M with
    | nil => have := (h x).1 (by simp); simp at this
    | cons y M =>
      obtain ⟨a1, a2⟩ := List.pairwise_cons.1 h1
      obtain ⟨b1, b2⟩ := List.pairwise_cons.1 h2
      have hxy : x = y := by
        rcases List.mem_cons.1 ((h x).1 (by simp)) with e | e
        · exact e
        · rcases List.mem_cons.1 ((h y).2 (by simp)) with e' | e'
          · exact e'.symm
          · have := a1 y e'; have := b1 x e; omega
      subst hxy
      congr 1
      refine ih a2 b2 fun z => ?_
      constructor
      · intro hz
        rcases List.mem_cons.1 ((h z).1 (by simp [hz])) with e | e
        · have := a1 z hz; omega
        · exact e
      · intro hz
        rcases List.mem_cons.1 ((h z).2 (by simp [hz])) with e | e
        · have := b1 z hz; omega
        · exact e
theorem IsDivs.unique {N : Nat} {L M : List Nat} (h : IsDivs N L) (k : IsDivs N M) : L = M :=
  asc_unique h.asc k.asc fun x => by rw [h.mem, k.mem]

/-- The state of the search for divisors: those below d, and their partners. -/
structure DInv (N d : Nat) (lo hi : List Nat) : Prop where
  one : 1 ≤ d
  sq : ∀ e, e < d → e * e ≤ N
  asc : lo.Pairwise (· < ·)
  mem : ∀ x, x ∈ lo ↔ 1 ≤ x ∧ x < d ∧ x ∣ N
  desc : hi.Pairwise (· > ·)
  mem' : ∀ y, y ∈ hi ↔ y ∣ N ∧ 1 ≤ N / y ∧ N / y < d ∧ N / y < y
  llen : lo.length + 1 ≤ d
  hlen : hi.length + 1 ≤ d
theorem DInv.start (N : Nat) : DInv N 1 [] [] := by
  refine ⟨Nat.le_refl _, fun e he => ?_, by simp, fun x => ?_, by simp, fun y => ?_, by simp, by simp⟩
  · obtain rfl : e = 0 := by omega
    omega
  · simp; omega
  · constructor
    · intro h; simp at h
    · rintro ⟨_, b, c, _⟩; omega
theorem sq_next {N d : Nat} (h : ∀ e, e < d → e * e ≤ N) (hd : d * d ≤ N) : ∀ e, e < d + 1 → e * e ≤ N := by
  intro e he
  rcases Nat.lt_or_ge e d with h1 | h1
  · exact h e h1
  · obtain rfl : e = d := by omega
    exact hd
theorem DInv.skip {N d : Nat} {lo hi : List Nat} (h : DInv N d lo hi) (hN : 1 ≤ N) (hd : d * d ≤ N) (hn : ¬ d ∣ N) : DInv N (d + 1) lo hi := by
  have h1 := h.one
  refine ⟨by omega, sq_next h.sq hd, h.asc, fun x => ?_, h.desc, fun y => ?_, by have := h.llen; omega, by have := h.hlen; omega⟩
  · rw [h.mem]
    constructor
    · rintro ⟨a, b, c⟩; exact ⟨a, by omega, c⟩
    · rintro ⟨a, b, c⟩
      refine ⟨a, ?_, c⟩
      rcases Nat.lt_or_ge x d with h2 | h2
      · exact h2
      · obtain rfl : x = d := by omega
        exact absurd c hn
  · rw [h.mem']
    constructor
    · rintro ⟨a, b, c, e⟩; exact ⟨a, b, by omega, e⟩
    · rintro ⟨a, b, c, e⟩
      refine ⟨a, b, ?_, e⟩
      rcases Nat.lt_or_ge (N / y) d with h2 | h2
      · exact h2
      · have h3 : N / y = d := by omega
        exact absurd (⟨y, by rw [← h3, Nat.div_mul_cancel a]⟩ : d ∣ N) hn
theorem asc_snoc {lo : List Nat} {d : Nat} (h : lo.Pairwise (· < ·)) (hb : ∀ x ∈ lo, x < d) : (lo ++ [d]).Pairwise (· < ·) := by
  rw [List.pairwise_append]
  exact ⟨h, by simp, fun a ha b hb' => by simp at hb'; subst hb'; exact hb a ha⟩
theorem desc_snoc {lo : List Nat} {d : Nat} (h : lo.Pairwise (· > ·)) (hb : ∀ x ∈ lo, d < x) : (lo ++ [d]).Pairwise (· > ·) := by
  rw [List.pairwise_append]
  exact ⟨h, by simp, fun a ha b hb' => by simp at hb'; subst hb'; exact hb a ha⟩
theorem DInv.hit {N d : Nat} {lo hi : List Nat} (h : DInv N d lo hi) (hN : 1 ≤ N) (hd : d * d ≤ N) (hn : d ∣ N) : DInv N (d + 1) (lo ++ [d]) (if d = N / d then hi else hi ++ [N / d]) := by
  have h1 := h.one
  have hdd : N / (N / d) = d := Nat.div_div_self hn (by omega)
  have hle : d ≤ N / d := (Nat.le_div_iff_mul_le (by omega)).2 hd
  have hlo : ∀ x, x ∈ lo ++ [d] ↔ 1 ≤ x ∧ x < d + 1 ∧ x ∣ N := by
    intro x
    rw [List.mem_append, h.mem, List.mem_singleton]
    constructor
    · rintro (⟨a, b, c⟩ | rfl)
      · exact ⟨a, by omega, c⟩
      · exact ⟨h1, by omega, hn⟩
    · rintro ⟨a, b, c⟩
      rcases Nat.lt_or_ge x d with h2 | h2
      · exact .inl ⟨a, h2, c⟩
      · exact .inr (by omega)
  refine ⟨by omega, sq_next h.sq hd, asc_snoc h.asc (fun x hx => ((h.mem x).1 hx).2.1), hlo, ?_, ?_, by simp; have := h.llen; omega, ?_⟩
  · split
    · exact h.desc
    · refine desc_snoc h.desc fun y hy => ?_
      obtain ⟨a, b, c, e⟩ := (h.mem' y).1 hy
      rcases Nat.lt_or_ge (N / d) y with h2 | h2
      · exact h2
      · have h3 : N / y * y < d * (N / d) := by
          refine Nat.lt_of_lt_of_le (Nat.mul_lt_mul_of_pos_right c (by omega)) (Nat.mul_le_mul_left d h2)
        rw [Nat.div_mul_cancel a, Nat.mul_div_cancel' hn] at h3
        omega
  · intro y
    split
    · rename_i he
      rw [h.mem']
      constructor
      · rintro ⟨a, b, c, e⟩; exact ⟨a, b, by omega, e⟩
      · rintro ⟨a, b, c, e⟩
        refine ⟨a, b, ?_, e⟩
        rcases Nat.lt_or_ge (N / y) d with h2 | h2
        · exact h2
        · have h3 : N / y = d := by omega
          have h4 : N / (N / y) = y := Nat.div_div_self a (by omega)
          rw [h3] at h4; omega
    · rename_i he
      rw [List.mem_append, h.mem', List.mem_singleton]
      constructor
      · rintro (⟨a, b, c, e⟩ | rfl)
        · exact ⟨a, b, by omega, e⟩
        · rw [hdd]
          exact ⟨Nat.div_dvd_of_dvd hn, by omega, by omega, by omega⟩
      · rintro ⟨a, b, c, e⟩
        rcases Nat.lt_or_ge (N / y) d with h2 | h2
        · exact .inl ⟨a, b, h2, e⟩
        · have h3 : N / y = d := by omega
          have h4 : N / (N / y) = y := Nat.div_div_self a (by omega)
          exact .inr (by rw [← h4, h3])
  · have := h.hlen
    split
    · omega
    · simp; omega
theorem DInv.done {N d : Nat} {lo hi : List Nat} (h : DInv N d lo hi) (hN : 1 ≤ N) (hd : ¬ d * d ≤ N) : IsDivs N (lo ++ hi.reverse) := by
  have h1 := h.one
  refine ⟨?_, fun x => ?_⟩
  · rw [List.pairwise_append, List.pairwise_reverse]
    refine ⟨h.asc, h.desc.imp (fun h => h), fun a ha b hb => ?_⟩
    obtain ⟨a1, a2, a3⟩ := (h.mem a).1 ha
    obtain ⟨b1, b2, b3, b4⟩ := (h.mem' b).1 (by simpa using hb)
    have k1 := h.sq a a2
    have k2 : N < b * b := by
      have := Nat.mul_lt_mul_of_pos_right b4 (show 0 < b by omega)
      rwa [Nat.div_mul_cancel b1] at this
    rcases Nat.lt_or_ge a b with h2 | h2
    · exact h2
    · have := Nat.mul_le_mul h2 h2; omega
  · rw [List.mem_append, List.mem_reverse, h.mem, h.mem']
    constructor
    · rintro (⟨a, b, c⟩ | ⟨a, b, c, e⟩)
      · exact ⟨a, c⟩
      · exact ⟨by omega, a⟩
    · rintro ⟨a, b⟩
      rcases Nat.lt_or_ge x d with h2 | h2
      · exact .inl ⟨a, h2, b⟩
      · right
        have k := Nat.div_mul_cancel b
        have k2 : d * d ≤ x * x := Nat.mul_le_mul h2 h2
        have k3 : d * d ≤ d * x := Nat.mul_le_mul_left d h2
        refine ⟨b, Nat.div_pos (Nat.le_of_dvd hN b) (by omega), ?_, ?_⟩
        · rcases Nat.lt_or_ge (N / x) d with h3 | h3
          · exact h3
          · have := Nat.mul_le_mul_right x h3; omega
        · rcases Nat.lt_or_ge (N / x) x with h3 | h3
          · exact h3
          · have := Nat.mul_le_mul_right x h3; omega

/-! ### the reduction to the order -/
theorem not_pow_succ {N : Nat} {A B : List (Nat × Nat)} {x : Nat × Nat} (h : IsFac N (A ++ x :: B)) : ¬ x.1 ^ (x.2 + 1) ∣ N := by
  intro hd
  have hx := h.prime x (by simp)
  have h2 := hx.1.two
  have hmul : ∀ A B : List (Nat × Nat), fprod (A ++ B) = fprod A * fprod B := by
    intro A B
    induction A with
    | nil => simp [fprod]
    | cons y A ih => simp only [List.cons_append, fprod, ih]; ac_rfl
  have hN : N = x.1 ^ x.2 * (fprod A * fprod B) := by rw [← h.prod, hmul]; simp only [fprod]; ac_rfl
  rw [hN, Nat.pow_succ] at hd
  have h3 : x.1 ∣ fprod A * fprod B := Nat.dvd_of_mul_dvd_mul_left (Nat.pow_pos (by omega)) hd
  obtain ⟨p1, p2, p3⟩ := List.pairwise_append.1 h.asc
  rcases pr_dvd_mul hx.1 h3 with h4 | h4
  · obtain ⟨y, hy, e⟩ := pr_dvd_fprod hx.1 (fun y hy => h.prime y (by simp [hy])) h4
    have := p3 y hy x (by simp); omega
  · obtain ⟨y, hy, e⟩ := pr_dvd_fprod hx.1 (fun y hy => h.prime y (by simp [hy])) h4
    have := (List.pairwise_cons.1 p2).1 y hy; omega

/-- Between two primes: o the order, x the exponent, N what the exponent was at first. -/
structure OInv (N o x : Nat) (A B : List (Nat × Nat)) : Prop where
  o1 : 1 ≤ o
  ox : o ∣ x
  xN : x ∣ N
  done : ∀ y ∈ A, ¬ y.1 * o ∣ x
  left : ∀ y ∈ B, y.1 ^ y.2 ∣ x
/-- Within one prime y, after j divisions. -/
structure PInv (N o x j : Nat) (A B : List (Nat × Nat)) (y : Nat × Nat) : Prop where
  o1 : 1 ≤ o
  ox : o ∣ x
  xN : x * y.1 ^ j ∣ N
  j1 : j ≤ y.2
  yx : y.1 ^ (y.2 - j) ∣ x
  done : ∀ z ∈ A, ¬ z.1 * o ∣ x
  left : ∀ z ∈ B, z.1 ^ z.2 ∣ x
theorem OInv.open {N o x : Nat} {A B : List (Nat × Nat)} {y : Nat × Nat} (h : OInv N o x A (y :: B)) : PInv N o x 0 A B y :=
  ⟨h.o1, h.ox, by simpa using h.xN, by omega, by simpa using h.left y (by simp), h.done, fun z hz => h.left z (by simp [hz])⟩
theorem PInv.dvd {N o x j : Nat} {A B : List (Nat × Nat)} {y : Nat × Nat} (h : PInv N o x j A B y) (hj : j < y.2) : y.1 ∣ x := by
  exact Nat.dvd_trans (dvd_pow_pos _ (by omega)) h.yx
theorem PInv.shut {N o x j : Nat} {A B : List (Nat × Nat)} {y : Nat × Nat} (h : PInv N o x j A B y) (hn : ¬ y.1 * o ∣ x) : OInv N o x (A ++ [y]) B := by
  refine ⟨h.o1, h.ox, Nat.dvd_trans (Nat.dvd_mul_right _ _) h.xN, fun z hz => ?_, h.left⟩
  rcases List.mem_append.1 hz with hz | hz
  · exact h.done z hz
  · obtain rfl : z = y := by simpa using hz
    exact hn
theorem PInv.last {N o x j : Nat} {A B : List (Nat × Nat)} {y : Nat × Nat} (h : PInv N o x j A B y) (hf : IsFac N (A ++ y :: B)) (hj : j = y.2) : OInv N o x (A ++ [y]) B := by
  refine h.shut fun hd => not_pow_succ hf ?_
  have h1 : y.1 ∣ x := Nat.dvd_trans (Nat.dvd_mul_right _ _) hd
  subst hj
  rw [Nat.pow_succ, Nat.mul_comm]
  exact Nat.dvd_trans (Nat.mul_dvd_mul_right h1 _) h.xN
theorem PInv.stop {N o x j : Nat} {A B : List (Nat × Nat)} {y : Nat × Nat} (h : PInv N o x j A B y) (h2 : 2 ≤ y.1) (hn : ¬ o ∣ x / y.1) : OInv N o x (A ++ [y]) B := by
  refine h.shut fun hd => hn ?_
  obtain ⟨c, rfl⟩ := hd
  rw [Nat.mul_assoc, Nat.mul_div_cancel_left _ (by omega)]
  exact Nat.dvd_mul_right _ _
theorem PInv.next {N o x j : Nat} {A B : List (Nat × Nat)} {y : Nat × Nat} (h : PInv N o x j A B y) (hy : Pr y.1) (hB : ∀ z ∈ B, Pr z.1 ∧ y.1 < z.1) (hj : j < y.2) (hd : o ∣ x / y.1) : PInv N o (x / y.1) (j + 1) A B y := by
  have hyx := h.dvd hj
  have h2 := hy.two
  have e : y.1 * (x / y.1) = x := Nat.mul_div_cancel' hyx
  refine ⟨h.o1, hd, ?_, by omega, ?_, fun z hz hc => h.done z hz (Nat.dvd_trans hc (Nat.div_dvd_of_dvd hyx)), fun z hz => ?_⟩
  · rw [Nat.pow_succ, Nat.mul_comm _ y.1, ← Nat.mul_assoc, Nat.mul_comm _ y.1, e]
    exact h.xN
  · have h3 := h.yx
    rw [show y.2 - j = (y.2 - (j + 1)) + 1 by omega, Nat.pow_succ, Nat.mul_comm] at h3
    rw [← e] at h3
    exact Nat.dvd_of_mul_dvd_mul_left (by omega) h3
  · have h3 := h.left z hz
    obtain ⟨hz1, hz2⟩ := hB z hz
    rw [← e] at h3
    refine Nat.Coprime.dvd_of_dvd_mul_left (Nat.Coprime.pow_left _ (pr_coprime hz1 fun hc => ?_)) h3
    rcases pr_dvd hy hc with h4 | h4
    · have := hz1.two; omega
    · omega
theorem OInv.fin {N o x : Nat} {A : List (Nat × Nat)} (h : OInv N o x A []) (hN : 1 ≤ N) (hf : IsFac N A) : x = o := by
  obtain ⟨c, rfl⟩ := h.ox
  have hx := h.xN
  rcases Nat.lt_or_ge c 2 with h1 | h1
  · rcases Nat.eq_zero_or_pos c with h0 | h0
    · subst h0
      have := Nat.eq_zero_of_zero_dvd (by simpa using hx : 0 ∣ N); omega
    · obtain rfl : c = 1 := by omega
      omega
  · obtain ⟨q, hq, hd⟩ := exists_pr h1
    have h3 : q ∣ fprod A := by rw [hf.prod]; exact Nat.dvd_trans hd (Nat.dvd_trans (Nat.dvd_mul_left _ _) hx)
    obtain ⟨y, hy, rfl⟩ := pr_dvd_fprod hq hf.prime h3
    refine absurd ?_ (h.done y hy)
    rw [Nat.mul_comm]
    exact Nat.mul_dvd_mul_left o hd
theorem OInv.start {N o : Nat} {L : List (Nat × Nat)} (h1 : 1 ≤ o) (hd : o ∣ N) (hf : IsFac N L) : OInv N o N [] L :=
  ⟨h1, hd, Nat.dvd_refl _, by simp, fun y hy => by have := dvd_fprod hy; rwa [hf.prod] at this⟩

/-! ### one list of prime powers -/
theorem padic_unique {p : Nat} (hp : 2 ≤ p) : ∀ (a b u v : Nat), p ^ a * u = p ^ b * v → ¬ p ∣ u → ¬ p ∣ v → a = b ∧ u = v := by
  intro a
  induction a with
  | zero =>
    intro b u v h hu hv
    rcases b with _ | b
    · exact ⟨rfl, by simpa using h⟩
    · refine absurd ?_ hu
      have : u = p * (p ^ b * v) := by rw [Nat.pow_succ] at h; simp at h; rw [h]; ac_rfl
      exact ⟨_, this⟩
  | succ a ih =>
    intro b u v h hu hv
    rcases b with _ | b
    · refine absurd ?_ hv
      have : v = p * (p ^ a * u) := by rw [Nat.pow_succ] at h; simp at h; rw [← h]; ac_rfl
      exact ⟨_, this⟩
    · have h2 : p * (p ^ a * u) = p * (p ^ b * v) := by
        rw [Nat.pow_succ, Nat.pow_succ] at h
        have e1 : p * (p ^ a * u) = p ^ a * p * u := by ac_rfl
        have e2 : p * (p ^ b * v) = p ^ b * p * v := by ac_rfl
        rw [e1, e2, h]
      obtain ⟨h3, h4⟩ := ih b u v (Nat.eq_of_mul_eq_mul_left (by omega) h2) hu hv
      exact ⟨by omega, h4⟩
theorem IsFac.tail {n : Nat} {x : Nat × Nat} {l : List (Nat × Nat)} (h : IsFac n (x :: l)) : IsFac (fprod l) l :=
  ⟨rfl, fun y hy => h.prime y (by simp [hy]), (List.pairwise_cons.1 h.asc).2⟩
theorem facs_eq : ∀ (l : List (Nat × Nat)) (f n : Nat), n ≤ f → IsFac n l → facs f n = l := by
  intro l
  induction l with
  | nil =>
    intro f n h1 h2
    have : n = 1 := h2.prod.symm
    subst this
    obtain ⟨g, rfl⟩ : ∃ g, f = g + 1 := ⟨f - 1, by omega⟩
    unfold facs; rw [if_pos (by omega)]
  | cons x l ih =>
    intro f n h1 h2
    have hx := h2.prime x (by simp)
    have hx2 := hx.1.two
    have hprod : x.1 ^ x.2 * fprod l = n := h2.prod
    have hpos : 1 ≤ fprod l := fprod_pos fun y hy => ⟨(h2.prime y (by simp [hy])).1.two, (h2.prime y (by simp [hy])).2⟩
    have hnd : ¬ x.1 ∣ fprod l := fac_coprime hx.1 (fun y hy => h2.prime y (by simp [hy])) (List.pairwise_cons.1 h2.asc).1
    have hpw : 2 ≤ x.1 ^ x.2 := by
      have : 2 ^ 1 ≤ x.1 ^ x.2 := Nat.le_trans (Nat.pow_le_pow_left hx2 1) (Nat.pow_le_pow_right (by omega) hx.2)
      simpa using this
    have hn2 : 2 ≤ n := by rw [← hprod]; exact Nat.le_trans hpw (Nat.le_mul_of_pos_right _ (by omega))
    have hlt : fprod l < n := by
      rw [← hprod]
      have := Nat.mul_le_mul_right (fprod l) hpw
      omega
    have hl : ldiv n = x.1 := by
      refine ldiv_eq hn2 ⟨hx2, Nat.mod_eq_zero_of_dvd ?_, fun e he hlt' hc => ?_⟩
      · rw [← hprod]; exact Nat.dvd_trans (dvd_pow_pos _ hx.2) (Nat.dvd_mul_right _ _)
      · obtain ⟨q, hq, hqe⟩ := exists_pr he
        have hqn : q ∣ fprod (x :: l) := by rw [h2.prod]; exact Nat.dvd_trans hqe (Nat.dvd_of_mod_eq_zero hc)
        obtain ⟨y, hy, e2⟩ := pr_dvd_fprod hq h2.prime hqn
        have hqle := Nat.le_of_dvd (by omega) hqe
        rcases List.mem_cons.1 hy with rfl | hy
        · omega
        · have := (List.pairwise_cons.1 h2.asc).1 y hy; omega
    obtain ⟨k1, k2, k3, k4⟩ := rest_mult hx2 n n (by omega) (Nat.le_refl _)
    have hu := padic_unique hx2 _ _ _ _ (k1.symm.trans hprod.symm) (fun hc => k2 (Nat.mod_eq_zero_of_dvd hc)) hnd
    obtain ⟨g, rfl⟩ : ∃ g, f = g + 1 := ⟨f - 1, by omega⟩
    unfold facs
    rw [if_neg (by omega), hl, hu.1, hu.2, ih g (fprod l) (by omega) h2.tail]
theorem facl_eq {n : Nat} {l : List (Nat × Nat)} (h : IsFac n l) : facl n = l := facs_eq l n n (Nat.le_refl _) h

/-! ### the divisors, as the program lists them -/
def ext (D : List Nat) (p : Nat) : Nat → List Nat
  | 0 => D
  | j + 1 => ext D p j ++ D.map (· * p ^ (j + 1))
def dvl : List Nat → List (Nat × Nat) → List Nat
  | D, [] => D
  | D, x :: l => dvl (ext D x.1 x.2) l
theorem mem_ext {D : List Nat} {p : Nat} {x : Nat} : ∀ {e : Nat}, x ∈ ext D p e ↔ ∃ j, j ≤ e ∧ ∃ d ∈ D, x = d * p ^ j := by
  intro e
  induction e with
  | zero =>
    constructor
    · intro h; exact ⟨0, by omega, x, h, by simp⟩
    · rintro ⟨j, hj, d, hd, rfl⟩
      obtain rfl : j = 0 := by omega
      simpa [ext] using hd
  | succ e ih =>
    simp only [ext, List.mem_append, ih, List.mem_map]
    constructor
    · rintro (⟨j, hj, d, hd, rfl⟩ | ⟨d, hd, rfl⟩)
      · exact ⟨j, by omega, d, hd, rfl⟩
      · exact ⟨e + 1, by omega, d, hd, rfl⟩
    · rintro ⟨j, hj, d, hd, rfl⟩
      rcases Nat.lt_or_ge e j with h | h
      · obtain rfl : j = e + 1 := by omega
        exact .inr ⟨d, hd, rfl⟩
      · exact .inl ⟨j, h, d, hd, rfl⟩
theorem dvd_mul_pow {p M : Nat} (hp : Pr p) : ∀ (e x : Nat), x ∣ M * p ^ e → ∃ j, j ≤ e ∧ ∃ d, d ∣ M ∧ x = d * p ^ j := by
  intro e
  induction e with
  | zero => intro x h; exact ⟨0, by omega, x, by simpa using h, by simp⟩
  | succ e ih =>
    intro x h
    by_cases hx : p ∣ x
    · obtain ⟨y, rfl⟩ := hx
      have h2 : p * y ∣ p * (M * p ^ e) := by
        have e1 : M * p ^ (e + 1) = p * (M * p ^ e) := by rw [Nat.pow_succ]; ac_rfl
        rwa [e1] at h
      obtain ⟨j, hj, d, hd, rfl⟩ := ih y (Nat.dvd_of_mul_dvd_mul_left (by have := hp.two; omega) h2)
      exact ⟨j + 1, by omega, d, hd, by rw [Nat.pow_succ]; ac_rfl⟩
    · refine ⟨0, by omega, x, ?_, by simp⟩
      exact Nat.Coprime.dvd_of_dvd_mul_right (Nat.Coprime.pow_right _ (pr_coprime hp hx).symm) h
/-- What the list holds between two primes. -/
structure DL (M : Nat) (D : List Nat) (A : List (Nat × Nat)) : Prop where
  prod : fprod A = M
  mem : ∀ x, x ∈ D ↔ x ∣ M
  nodup : D.Nodup
  fac : ∀ x ∈ D, ∃ l, IsFac x l ∧ ∀ y ∈ l, ∃ z ∈ A, y.1 = z.1
theorem fprod_append (A B : List (Nat × Nat)) : fprod (A ++ B) = fprod A * fprod B := by
  induction A with
  | nil => simp [fprod]
  | cons y A ih => simp only [List.cons_append, fprod, ih]; ac_rfl
theorem DL.start : DL 1 [1] [] :=
  ⟨rfl, fun x => by simp, by simp, fun x hx => ⟨[], by
    obtain rfl : x = 1 := by simpa using hx
    exact ⟨rfl, by simp, by simp⟩, by simp⟩⟩
theorem ext_nodup {D : List Nat} {p : Nat} (hp : Pr p) (hD : D.Nodup) (hpD : ∀ d ∈ D, ¬ p ∣ d) : ∀ e, (ext D p e).Nodup := by
  have h2 := hp.two
  intro e
  induction e with
  | zero => exact hD
  | succ e ih =>
    simp only [ext]
    rw [List.nodup_append]
    refine ⟨ih, ?_, ?_⟩
    · unfold List.Nodup
      rw [List.pairwise_map]
      exact hD.imp fun h hc => h (Nat.eq_of_mul_eq_mul_right (Nat.pow_pos (by omega)) hc)
    · intro a ha b hb hab
      obtain ⟨j, hj, d, hd, rfl⟩ := mem_ext.1 ha
      obtain ⟨d', hd', rfl⟩ := List.mem_map.1 hb
      have := padic_unique h2 j (e + 1) d d' (by rw [Nat.mul_comm, hab, Nat.mul_comm]) (hpD d hd) (hpD d' hd')
      omega
theorem fac_snoc {d p j : Nat} {l A : List (Nat × Nat)} (hl : IsFac d l) (hp : Pr p) (hlt : ∀ z ∈ A, z.1 < p) (hA : ∀ y ∈ l, ∃ z ∈ A, y.1 = z.1) (hj : 1 ≤ j) : IsFac (d * p ^ j) (l ++ [(p, j)]) := by
  refine ⟨by rw [fprod_append, hl.prod]; simp [fprod], fun y hy => ?_, ?_⟩
  · rcases List.mem_append.1 hy with hy | hy
    · exact hl.prime y hy
    · obtain rfl : y = (p, j) := by simpa using hy
      exact ⟨hp, hj⟩
  · rw [List.pairwise_append]
    refine ⟨hl.asc, by simp, fun a ha b hb => ?_⟩
    obtain rfl : b = (p, j) := by simpa using hb
    obtain ⟨z, hz, e⟩ := hA a ha
    have := hlt z hz
    show a.1 < p
    omega
theorem DL.next {M : Nat} {D : List Nat} {A : List (Nat × Nat)} {x : Nat × Nat} (h : DL M D A) (hA : ∀ z ∈ A, Pr z.1 ∧ 1 ≤ z.2) (hx : Pr x.1) (hlt : ∀ z ∈ A, z.1 < x.1) : DL (M * x.1 ^ x.2) (ext D x.1 x.2) (A ++ [x]) := by
  have hpM : ¬ x.1 ∣ M := by
    rw [← h.prod]
    intro hc
    obtain ⟨y, hy, e⟩ := pr_dvd_fprod hx hA hc
    have := hlt y hy; omega
  refine ⟨by rw [fprod_append, h.prod]; simp [fprod], fun y => ?_, ext_nodup hx h.nodup (fun d hd hc => hpM (Nat.dvd_trans hc ((h.mem d).1 hd))) _, fun y hy => ?_⟩
  · rw [mem_ext]
    constructor
    · rintro ⟨j, hj, d, hd, rfl⟩
      exact Nat.mul_dvd_mul ((h.mem d).1 hd) (Nat.pow_dvd_pow _ hj)
    · intro hy
      obtain ⟨j, hj, d, hd, rfl⟩ := dvd_mul_pow hx _ _ hy
      exact ⟨j, hj, d, (h.mem d).2 hd, rfl⟩
  · obtain ⟨j, hj, d, hd, rfl⟩ := mem_ext.1 hy
    obtain ⟨l, hl, hlA⟩ := h.fac d hd
    rcases Nat.eq_zero_or_pos j with h0 | h0
    · subst h0
      refine ⟨l, by simpa using hl, fun y hy => ?_⟩
      obtain ⟨z, hz, e⟩ := hlA y hy
      exact ⟨z, by simp [hz], e⟩
    · refine ⟨l ++ [(x.1, j)], fac_snoc hl hx hlt hlA h0, fun y hy => ?_⟩
      rcases List.mem_append.1 hy with hy | hy
      · obtain ⟨z, hz, e⟩ := hlA y hy
        exact ⟨z, by simp [hz], e⟩
      · obtain rfl : y = (x.1, j) := by simpa using hy
        exact ⟨x, by simp, rfl⟩
theorem DL.all : ∀ {B A : List (Nat × Nat)} {D : List Nat} {M N : Nat}, DL M D A → IsFac N (A ++ B) → DL N (dvl D B) (A ++ B) := by
  intro B
  induction B with
  | nil =>
    intro A D M N h hf
    have := hf.prod
    rw [List.append_nil] at this hf ⊢
    rw [h.prod] at this
    subst this
    exact h
  | cons x B ih =>
    intro A D M N h hf
    have hx := hf.prime x (by simp)
    have hlt : ∀ z ∈ A, z.1 < x.1 := fun z hz => (List.pairwise_append.1 hf.asc).2.2 z hz x (by simp)
    have := ih (h.next (fun z hz => hf.prime z (by simp [hz])) hx.1 hlt) (N := N) (by simpa using hf)
    simpa [dvl] using this

/-! ### sums over the divisors -/
def sm (f : Nat → Int) : List Nat → Int
  | [] => 0
  | x :: l => f x + sm f l
theorem sm_append (f : Nat → Int) (A B : List Nat) : sm f (A ++ B) = sm f A + sm f B := by
  induction A with
  | nil => simp [sm]
  | cons x A ih => simp only [List.cons_append, sm, ih]; omega
theorem sm_perm {f : Nat → Int} {A B : List Nat} (h : A.Perm B) : sm f A = sm f B := by
  induction h with
  | nil => rfl
  | cons x _ ih => simp only [sm, ih]
  | swap x y l => simp only [sm]; omega
  | trans _ _ h1 h2 => rw [h1, h2]
theorem sm_map_mul {f g : Nat → Int} {h : Nat → Nat} {c : Int} : ∀ {D : List Nat}, (∀ d ∈ D, f (h d) = g d * c) → sm f (D.map h) = sm g D * c := by
  intro D
  induction D with
  | nil => intro _; simp [sm]
  | cons x D ih =>
    intro hd
    simp only [List.map_cons, sm]
    rw [hd x (by simp), ih (fun d h => hd d (by simp [h])), Int.add_mul]
def phiN (n : Nat) : Int := (phis (facl n) : Nat)
/-- Moebius' function, of the list of prime powers. -/
def moeb : List (Nat × Nat) → Int
  | [] => 1
  | x :: l => if 1 < x.2 then 0 else - moeb l
def moeN (n : Nat) : Int := moeb (facl n)
theorem phis_append (A B : List (Nat × Nat)) : phis (A ++ B) = phis A * phis B := by
  induction A with
  | nil => simp [phis]
  | cons x A ih => simp only [List.cons_append, phis, ih]; ac_rfl
theorem moeb_append (A B : List (Nat × Nat)) : moeb (A ++ B) = moeb A * moeb B := by
  induction A with
  | nil => simp [moeb]
  | cons x A ih =>
    simp only [List.cons_append, moeb, ih]
    split
    · simp
    · rw [Int.neg_mul]
theorem phi_mul {d p j : Nat} {l A : List (Nat × Nat)} (hl : IsFac d l) (hp : Pr p) (hlt : ∀ z ∈ A, z.1 < p) (hA : ∀ y ∈ l, ∃ z ∈ A, y.1 = z.1) : phiN (d * p ^ (j + 1)) = phiN d * ((p ^ j * (p - 1) : Nat) : Int) ∧ moeN (d * p ^ (j + 1)) = moeN d * (if j = 0 then -1 else 0) := by
  have h := fac_snoc hl hp hlt hA (show 1 ≤ j + 1 by omega)
  unfold phiN moeN
  rw [facl_eq h, facl_eq hl, phis_append, moeb_append]
  refine ⟨by simp [phis], ?_⟩
  by_cases hj : j = 0
  · subst hj; simp [moeb]
  · rw [if_neg hj]; simp [moeb, show 0 < j by omega]
theorem sum_ext {D : List Nat} {A : List (Nat × Nat)} {p : Nat} (hp : Pr p) (hlt : ∀ z ∈ A, z.1 < p) (hf : ∀ x ∈ D, ∃ l, IsFac x l ∧ ∀ y ∈ l, ∃ z ∈ A, y.1 = z.1) :
    ∀ e, sm phiN (ext D p e) = sm phiN D * ((p ^ e : Nat) : Int) ∧ sm moeN (ext D p e) = if e = 0 then sm moeN D else 0 := by
  have h2 := hp.two
  intro e
  induction e with
  | zero => simp [ext]
  | succ e ih =>
    simp only [ext, sm_append]
    have k1 : sm phiN (D.map (· * p ^ (e + 1))) = sm phiN D * ((p ^ e * (p - 1) : Nat) : Int) := sm_map_mul fun d hd => by
      obtain ⟨l, hl, hlA⟩ := hf d hd
      exact (phi_mul hl hp hlt hlA).1
    have k2 : sm moeN (D.map (· * p ^ (e + 1))) = sm moeN D * (if e = 0 then -1 else 0) := sm_map_mul fun d hd => by
      obtain ⟨l, hl, hlA⟩ := hf d hd
      exact (phi_mul hl hp hlt hlA).2
    rw [k1, k2, ih.1, ih.2, ← Int.mul_add, ← Int.natCast_add]
    refine ⟨?_, ?_⟩
    · congr 2
      obtain ⟨q, rfl⟩ : ∃ q, p = q + 1 := ⟨p - 1, by omega⟩
      rw [Nat.pow_succ, Nat.mul_add]
      simp
      omega
    · by_cases he : e = 0
      · subst he; simp; omega
      · simp [he]
theorem sum_dvl : ∀ {B A : List (Nat × Nat)} {D : List Nat} {M N : Nat}, DL M D A → IsFac N (A ++ B) → sm phiN (dvl D B) = sm phiN D * ((fprod B : Nat) : Int) ∧ sm moeN (dvl D B) = if B = [] then sm moeN D else 0 := by
  intro B
  induction B with
  | nil => intro A D M N h hf; simp [dvl, fprod]
  | cons x B ih =>
    intro A D M N h hf
    have hx := hf.prime x (by simp)
    have hlt : ∀ z ∈ A, z.1 < x.1 := fun z hz => (List.pairwise_append.1 hf.asc).2.2 z hz x (by simp)
    have hD := h.next (fun z hz => hf.prime z (by simp [hz])) hx.1 hlt
    obtain ⟨s1, s2⟩ := ih hD (N := N) (by simpa using hf)
    obtain ⟨e1, e2⟩ := sum_ext hx.1 hlt h.fac x.2
    simp only [dvl, fprod]
    rw [s1, s2, e1, e2]
    refine ⟨by rw [Int.mul_assoc, ← Int.natCast_mul], ?_⟩
    have : x.2 ≠ 0 := by omega
    simp [this]

/-! ### the numbers without a common divisor -/
def cf (P : Nat → Bool) : Nat → Nat
  | 0 => 0
  | m + 1 => cf P m + if P (m + 1) = true then 1 else 0
theorem cf_add (P : Nat → Bool) (a b : Nat) : cf P (a + b) = cf P a + cf (fun i => P (a + i)) b := by
  induction b with
  | zero => simp [cf]
  | succ b ih => rw [← Nat.add_assoc]; simp only [cf, ih, Nat.add_assoc]
theorem cf_congr {P Q : Nat → Bool} : ∀ {m : Nat}, (∀ i, 1 ≤ i → i ≤ m → P i = Q i) → cf P m = cf Q m := by
  intro m
  induction m with
  | zero => intro _; rfl
  | succ m ih =>
    intro h
    simp only [cf]
    rw [ih (fun i h1 h2 => h i h1 (by omega)), h (m + 1) (by omega) (by omega)]
theorem cf_period {P : Nat → Bool} {n : Nat} (h : ∀ i, P (i + n) = P i) : ∀ k, cf P (n * k) = k * cf P n := by
  have hk : ∀ k i, P (n * k + i) = P i := by
    intro k
    induction k with
    | zero => intro i; simp
    | succ k ih =>
      intro i
      rw [Nat.mul_succ, show n * k + n + i = (n * k + i) + n by omega, h, ih]
  intro k
  induction k with
  | zero => simp [cf]
  | succ k ih =>
    rw [Nat.mul_succ, cf_add, ih, Nat.add_mul, Nat.one_mul]
    congr 1
    exact cf_congr fun i _ _ => hk k i
theorem cf_split (P Q : Nat → Bool) (m : Nat) : cf P m = cf (fun i => P i && Q i) m + cf (fun i => P i && !Q i) m := by
  induction m with
  | zero => rfl
  | succ m ih =>
    simp only [cf, ih]
    by_cases hP : P (m + 1) = true <;> by_cases hQ : Q (m + 1) = true <;> simp [hP, hQ] <;> omega
theorem cf_none {P : Nat → Bool} : ∀ {m : Nat}, (∀ i, 1 ≤ i → i ≤ m → P i = false) → cf P m = 0 := by
  intro m
  induction m with
  | zero => intro _; rfl
  | succ m ih =>
    intro h
    simp only [cf]
    rw [ih (fun i h1 h2 => h i h1 (by omega)), h (m + 1) (by omega) (by omega)]
    simp
theorem cf_multiples {p : Nat} (hp : 1 ≤ p) (Q : Nat → Bool) : ∀ m, cf (fun i => Q i && decide (p ∣ i)) (p * m) = cf (fun j => Q (p * j)) m := by
  intro m
  induction m with
  | zero => rfl
  | succ m ih =>
    rw [Nat.mul_succ, cf_add, ih]
    simp only [cf]
    congr 1
    obtain ⟨q, rfl⟩ : ∃ q, p = q + 1 := ⟨p - 1, by omega⟩
    simp only [cf]
    rw [cf_none]
    · have e : (q + 1) * m + (q + 1) = (q + 1) * (m + 1) := by rw [Nat.mul_succ]
      simp [e, show q + 1 ∣ (q + 1) * (m + 1) from Nat.dvd_mul_right _ _]
    · intro i h1 h2
      have : ¬ (q + 1) ∣ (q + 1) * m + i := by
        intro hc
        have := (Nat.dvd_add_right (Nat.dvd_mul_right (q + 1) m)).1 hc
        have := Nat.le_of_dvd (by omega) this
        omega
      simp [this]
def cop (n i : Nat) : Bool := decide (Nat.gcd i n = 1)
theorem cop_period (n i : Nat) : cop n (i + n) = cop n i := by simp [cop]
theorem cop_mul {p n i : Nat} (h : Nat.Coprime p n) : cop n (p * i) = cop n i := by
  unfold cop
  congr 1
  rw [Nat.Coprime.gcd_mul_left_cancel i h]
theorem cop_pow {p m n i : Nat} (hp : Pr p) (hm : 1 ≤ m) : cop (p ^ m * n) i = (cop n i && !decide (p ∣ i)) := by
  rw [Bool.eq_iff_iff]
  simp only [cop, Bool.and_eq_true, decide_eq_true_eq, Bool.not_eq_true', decide_eq_false_iff_not]
  constructor
  · intro h
    have h1 : Nat.Coprime i (p ^ m * n) := h
    refine ⟨Nat.Coprime.coprime_dvd_right (Nat.dvd_mul_left _ _) h1, fun hc => ?_⟩
    have h2 : Nat.Coprime i p := Nat.Coprime.coprime_dvd_right (Nat.dvd_trans (dvd_pow_pos p hm) (Nat.dvd_mul_right _ _)) h1
    have h3 : p = 1 := (Nat.gcd_eq_right hc).symm.trans h2
    have := hp.two
    omega
  · rintro ⟨h1, h2⟩
    exact Nat.Coprime.mul_right (Nat.Coprime.pow_right _ (pr_coprime hp h2).symm) h1
theorem count_step {p m n : Nat} (hp : Pr p) (hm : 1 ≤ m) (hc : Nat.Coprime p n) : cf (cop (p ^ m * n)) (p ^ m * n) = p ^ (m - 1) * (p - 1) * cf (cop n) n := by
  have h2 := hp.two
  have e1 : cf (cop (p ^ m * n)) (p ^ m * n) = cf (fun i => cop n i && !decide (p ∣ i)) (p ^ m * n) := cf_congr fun i _ _ => cop_pow hp hm
  have e2 : p ^ m * n = p * n * p ^ (m - 1) := by
    obtain ⟨k, rfl⟩ : ∃ k, m = k + 1 := ⟨m - 1, by omega⟩
    rw [Nat.pow_succ]
    show p ^ k * p * n = p * n * p ^ k
    ac_rfl
  have hper : ∀ i, (fun i => cop n i && !decide (p ∣ i)) (i + p * n) = (fun i => cop n i && !decide (p ∣ i)) i := by
    intro i
    show (cop n (i + p * n) && !decide (p ∣ i + p * n)) = _
    have a1 : cop n (i + p * n) = cop n i := by simp [cop]
    have a2 : (p ∣ i + p * n) ↔ p ∣ i := (Nat.dvd_add_left (Nat.dvd_mul_right p n))
    rw [a1]
    congr 2
    exact decide_eq_decide.2 a2
  have e3 : cf (cop n) (p * n) = p * cf (cop n) n := by rw [Nat.mul_comm p n]; exact cf_period (cop_period n) p
  have e4 := cf_split (cop n) (fun i => decide (p ∣ i)) (p * n)
  have e5 : cf (fun i => cop n i && decide (p ∣ i)) (p * n) = cf (cop n) n := by
    rw [cf_multiples (by omega)]
    exact cf_congr fun i _ _ => cop_mul hc
  have e6 : cf (fun i => cop n i && !decide (p ∣ i)) (p * n) = (p - 1) * cf (cop n) n := by
    rw [Nat.sub_mul, Nat.one_mul]; rw [e5, e3] at e4; omega
  rw [e1, e2, cf_period hper, e6, Nat.mul_assoc]
theorem count_list : ∀ {l : List (Nat × Nat)}, (∀ x ∈ l, Pr x.1 ∧ 1 ≤ x.2) → l.Pairwise (fun x y => x.1 < y.1) → cf (cop (fprod l)) (fprod l) = phis l := by
  intro l
  induction l with
  | nil => intro _ _; rfl
  | cons x l ih =>
    intro h1 h2
    obtain ⟨h3, h4⟩ := List.pairwise_cons.1 h2
    have hx := h1 x (by simp)
    simp only [fprod, phis]
    rw [count_step hx.1 hx.2 (pr_coprime hx.1 (fac_coprime hx.1 (fun y hy => h1 y (by simp [hy])) h3)), ih (fun y hy => h1 y (by simp [hy])) h4]
theorem count_eq {n : Nat} (h : 1 ≤ n) : cf (cop n) n = phis (facl n) := by
  have hf := facl_fac h
  have := count_list hf.prime hf.asc
  rwa [hf.prod] at this
end Go.Proofs.Ytnppfagghpjkpaa.Num
