/- Plain number theory: the divisors as the program lists them; sums over them; numbers without a common divisor. No program. -/
import Derived.Test.YtnppfagghpjkpaaT5
namespace Go.Proofs.Ytnppfagghpjkpaa.Num
set_option linter.unusedVariables false

/-! ### one list of prime powers -/
theorem padic_unique {p : Nat} (hp : 2 ≤ p) : ∀ (a b u v : Nat), p ^ a * u = p ^ b * v → ¬ p ∣ u → ¬ p ∣ v → a = b ∧ u = v := by
  intro a
  induction a with
  | zero =>
    intro b u v h hu hv
    rcases b with _ | b
    · exact ⟨rfl, by simpa using h⟩
    · refine absurd ?_ hu
      have : u = p * (p ^ b * v) := by rw [Nat.pow_succ] at h; simp at h; rw [h]; ac_rfl
      exact ⟨_, this⟩
  | succ a ih =>
    intro b u v h hu hv
    rcases b with _ | b
    · refine absurd ?_ hv
      have : v = p * (p ^ a * u) := by rw [Nat.pow_succ] at h; simp at h; rw [← h]; ac_rfl
      exact ⟨_, this⟩
    · have h2 : p * (p ^ a * u) = p * (p ^ b * v) := by
        rw [Nat.pow_succ, Nat.pow_succ] at h
        have e1 : p * (p ^ a * u) = p ^ a * p * u := by ac_rfl
        have e2 : p * (p ^ b * v) = p ^ b * p * v := by ac_rfl
        rw [e1, e2, h]
      obtain ⟨h3, h4⟩ := ih b u v (Nat.eq_of_mul_eq_mul_left (by omega) h2) hu hv
      exact ⟨by omega, h4⟩
theorem IsFac.tail {n : Nat} {x : Nat × Nat} {l : List (Nat × Nat)} (h : IsFac n (x :: l)) : IsFac (fprod l) l :=
  ⟨rfl, fun y hy => h.prime y (by simp [hy]), (List.pairwise_cons.1 h.asc).2⟩
theorem facs_eq : ∀ (l : List (Nat × Nat)) (f n : Nat), n ≤ f → IsFac n l → facs f n = l := by
  intro l
  induction l with
  | nil =>
    intro f n h1 h2
    have : n = 1 := h2.prod.symm
    subst this
    obtain ⟨g, rfl⟩ : ∃ g, f = g + 1 := ⟨f - 1, by omega⟩
    unfold facs; rw [if_pos (by omega)]
  | cons x l ih =>
    intro f n h1 h2
    have hx := h2.prime x (by simp)
    have hx2 := hx.1.two
    have hprod : x.1 ^ x.2 * fprod l = n := h2.prod
    have hpos : 1 ≤ fprod l := fprod_pos fun y hy => ⟨(h2.prime y (by simp [hy])).1.two, (h2.prime y (by simp [hy])).2⟩
    have hnd : ¬ x.1 ∣ fprod l := fac_coprime hx.1 (fun y hy => h2.prime y (by simp [hy])) (List.pairwise_cons.1 h2.asc).1
    have hpw : 2 ≤ x.1 ^ x.2 := by
      have : 2 ^ 1 ≤ x.1 ^ x.2 := Nat.le_trans (Nat.pow_le_pow_left hx2 1) (Nat.pow_le_pow_right (by omega) hx.2)
      simpa using this
    have hn2 : 2 ≤ n := by rw [← hprod]; exact Nat.le_trans hpw (Nat.le_mul_of_pos_right _ (by omega))
    have hlt : fprod l < n := by
      rw [← hprod]
      have := Nat.mul_le_mul_right (fprod l) hpw
      omega
    have hl : ldiv n = x.1 := by
      refine ldiv_eq hn2 ⟨hx2, Nat.mod_eq_zero_of_dvd ?_, fun e he hlt' hc => ?_⟩
      · rw [← hprod]; exact Nat.dvd_trans (dvd_pow_pos _ hx.2) (Nat.dvd_mul_right _ _)
      · obtain ⟨q, hq, hqe⟩ := exists_pr he
        have hqn : q ∣ fprod (x :: l) := by rw [h2.prod]; exact Nat.dvd_trans hqe (Nat.dvd_of_mod_eq_zero hc)
        obtain ⟨y, hy, e2⟩ := pr_dvd_fprod hq h2.prime hqn
        have hqle := Nat.le_of_dvd (by omega) hqe
        rcases List.mem_cons.1 hy with rfl | hy
        · omega
        · have := (List.pairwise_cons.1 h2.asc).1 y hy; omega
    obtain ⟨k1, k2, k3, k4⟩ := rest_mult hx2 n n (by omega) (Nat.le_refl _)
    have hu := padic_unique hx2 _ _ _ _ (k1.symm.trans hprod.symm) (fun hc => k2 (Nat.mod_eq_zero_of_dvd hc)) hnd
    obtain ⟨g, rfl⟩ : ∃ g, f = g + 1 := ⟨f - 1, by omega⟩
    unfold facs
    rw [if_neg (by omega), hl, hu.1, hu.2, ih g (fprod l) (by omega) h2.tail]
theorem facl_eq {n : Nat} {l : List (Nat × Nat)} (h : IsFac n l) : facl n = l := facs_eq l n n (Nat.le_refl _) h

/-! ### the divisors, as the program lists them -/
def ext (D : List Nat) (p : Nat) : Nat → List Nat
  | 0 => D
  | j + 1 => ext D p j ++ D.map (· * p ^ (j + 1))
def dvl : List Nat → List (Nat × Nat) → List Nat
  | D, [] => D
  | D, x :: l => dvl (ext D x.1 x.2) l
theorem mem_ext {D : List Nat} {p : Nat} {x : Nat} : ∀ {e : Nat}, x ∈ ext D p e ↔ ∃ j, j ≤ e ∧ ∃ d ∈ D, x = d * p ^ j := by
  intro e
  induction e with
  | zero =>
    constructor
    · intro h; exact ⟨0, by omega, x, h, by simp⟩
    · rintro ⟨j, hj, d, hd, rfl⟩
      obtain rfl : j = 0 := by omega
      simpa [ext] using hd
  | succ e ih =>
    simp only [ext, List.mem_append, ih, List.mem_map]
    constructor
    · rintro (⟨j, hj, d, hd, rfl⟩ | ⟨d, hd, rfl⟩)
      · exact ⟨j, by omega, d, hd, rfl⟩
      · exact ⟨e + 1, by omega, d, hd, rfl⟩
    · rintro ⟨j, hj, d, hd, rfl⟩
      rcases Nat.lt_or_ge e j with h | h
      · obtain rfl : j = e + 1 := by omega
        exact .inr ⟨d, hd, rfl⟩
      · exact .inl ⟨j, h, d, hd, rfl⟩
theorem dvd_mul_pow {p M : Nat} (hp : Pr p) : ∀ (e x : Nat), x ∣ M * p ^ e → ∃ j, j ≤ e ∧ ∃ d, d ∣ M ∧ x = d * p ^ j := by
  intro e
  induction e with
  | zero => intro x h; exact ⟨0, by omega, x, by simpa using h, by simp⟩
  | succ e ih =>
    intro x h
    by_cases hx : p ∣ x
    · obtain ⟨y, rfl⟩ := hx
      have h2 : p * y ∣ p * (M * p ^ e) := by
        have e1 : M * p ^ (e + 1) = p * (M * p ^ e) := by rw [Nat.pow_succ]; ac_rfl
        rwa [e1] at h
      obtain ⟨j, hj, d, hd, rfl⟩ := ih y (Nat.dvd_of_mul_dvd_mul_left (by have := hp.two; omega) h2)
      exact ⟨j + 1, by omega, d, hd, by rw [Nat.pow_succ]; ac_rfl⟩
    · refine ⟨0, by omega, x, ?_, by simp⟩
      exact Nat.Coprime.dvd_of_dvd_mul_right (Nat.Coprime.pow_right _ (pr_coprime hp hx).symm) h
/-- What the list holds between two primes. -/
structure DL (M : Nat) (D : List Nat) (A : List (Nat × Nat)) : Prop where
  prod : fprod A = M
  mem : ∀ x, x ∈ D ↔ x ∣ M
  nodup : D.Nodup
  fac : ∀ x ∈ D, ∃ l, IsFac x l ∧ ∀ y ∈ l, ∃ z ∈ A, y.1 = z.1
theorem fprod_append (A B : List (Nat × Nat)) : fprod (A ++ B) = fprod A * fprod B := by
  induction A with
  | nil => simp [fprod]
  | cons y A ih => simp only [List.cons_append, fprod, ih]; ac_rfl
theorem DL.start : DL 1 [1] [] :=
  ⟨rfl, fun x => by simp, by simp, fun x hx => ⟨[], by
    obtain rfl : x = 1 := by simpa using hx
    exact ⟨rfl, by simp, by simp⟩, by simp⟩⟩
theorem ext_nodup {D : List Nat} {p : Nat} (hp : Pr p) (hD : D.Nodup) (hpD : ∀ d ∈ D, ¬ p ∣ d) : ∀ e, (ext D p e).Nodup := by
  have h2 := hp.two
  intro e
  induction e with
  | zero => exact hD
  | succ e ih =>
    simp only [ext]
    rw [List.nodup_append]
    refine ⟨ih, ?_, ?_⟩
    · unfold List.Nodup
      rw [List.pairwise_map]
      exact hD.imp fun h hc => h (Nat.eq_of_mul_eq_mul_right (Nat.pow_pos (by omega)) hc)
    · intro a ha b hb hab
      obtain ⟨j, hj, d, hd, rfl⟩ := mem_ext.1 ha
      obtain ⟨d', hd', rfl⟩ := List.mem_map.1 hb
      have := padic_unique h2 j (e + 1) d d' (by rw [Nat.mul_comm, hab, Nat.mul_comm]) (hpD d hd) (hpD d' hd')
      omega
theorem fac_snoc {d p j : Nat} {l A : List (Nat × Nat)} (hl : IsFac d l) (hp : Pr p) (hlt : ∀ z ∈ A, z.1 < p) (hA : ∀ y ∈ l, ∃ z ∈ A, y.1 = z.1) (hj : 1 ≤ j) : IsFac (d * p ^ j) (l ++ [(p, j)]) := by
  refine ⟨by rw [fprod_append, hl.prod]; simp [fprod], fun y hy => ?_, ?_⟩
  · rcases List.mem_append.1 hy with hy | hy
    · exact hl.prime y hy
    · obtain rfl : y = (p, j) := by simpa using hy
      exact ⟨hp, hj⟩
  · rw [List.pairwise_append]
    refine ⟨hl.asc, by simp, fun a ha b hb => ?_⟩
    obtain rfl : b = (p, j) := by simpa using hb
    obtain ⟨z, hz, e⟩ := hA a ha
    have := hlt z hz
    show a.1 < p
    omega
theorem DL.next {M : Nat} {D : List Nat} {A : List (Nat × Nat)} {x : Nat × Nat} (h : DL M D A) (hA : ∀ z ∈ A, Pr z.1 ∧ 1 ≤ z.2) (hx : Pr x.1) (hlt : ∀ z ∈ A, z.1 < x.1) : DL (M * x.1 ^ x.2) (ext D x.1 x.2) (A ++ [x]) := by
  have hpM : ¬ x.1 ∣ M := by
    rw [← h.prod]
    intro hc
    obtain ⟨y, hy, e⟩ := pr_dvd_fprod hx hA hc
    have := hlt y hy; omega
  refine ⟨by rw [fprod_append, h.prod]; simp [fprod], fun y => ?_, ext_nodup hx h.nodup (fun d hd hc => hpM (Nat.dvd_trans hc ((h.mem d).1 hd))) _, fun y hy => ?_⟩
  · rw [mem_ext]
    constructor
    · rintro ⟨j, hj, d, hd, rfl⟩
      exact Nat.mul_dvd_mul ((h.mem d).1 hd) (Nat.pow_dvd_pow _ hj)
    · intro hy
      obtain ⟨j, hj, d, hd, rfl⟩ := dvd_mul_pow hx _ _ hy
      exact ⟨j, hj, d, (h.mem d).2 hd, rfl⟩
  · obtain ⟨j, hj, d, hd, rfl⟩ := mem_ext.1 hy
    obtain ⟨l, hl, hlA⟩ := h.fac d hd
    rcases Nat.eq_zero_or_pos j with h0 | h0
    · subst h0
      refine ⟨l, by simpa using hl, fun y hy => ?_⟩
      obtain ⟨z, hz, e⟩ := hlA y hy
      exact ⟨z, by simp [hz], e⟩
    · refine ⟨l ++ [(x.1, j)], fac_snoc hl hx hlt hlA h0, fun y hy => ?_⟩
      rcases List.mem_append.1 hy with hy | hy
      · obtain ⟨z, hz, e⟩ := hlA y hy
        exact ⟨z, by simp [hz], e⟩
      · obtain rfl : y = (x.1, j) := by simpa using hy
        exact ⟨x, by simp, rfl⟩
theorem DL.all : ∀ {B A : List (Nat × Nat)} {D : List Nat} {M N : Nat}, DL M D A → IsFac N (A ++ B) → DL N (dvl D B) (A ++ B) := by
  intro B
  induction B with
  | nil =>
    intro A D M N h hf
    have := hf.prod
    rw [List.append_nil] at this hf ⊢
    rw [h.prod] at this
    subst this
    exact h
  | cons x B ih =>
    intro A D M N h hf
    have hx := hf.prime x (by simp)
    have hlt : ∀ z ∈ A, z.1 < x.1 := fun z hz => (List.pairwise_append.1 hf.asc).2.2 z hz x (by simp)
    have := ih (h.next (fun z hz => hf.prime z (by simp [hz])) hx.1 hlt) (N := N) (by simpa using hf)
    simpa [dvl] using this

/-! ### sums over the divisors -/
def sm (f : Nat → Int) : List Nat → Int
  | [] => 0
  | x :: l => f x + sm f l
theorem sm_append (f : Nat → Int) (A B : List Nat) : sm f (A ++ B) = sm f A + sm f B := by
  induction A with
  | nil => simp [sm]
  | cons x A ih => simp only [List.cons_append, sm, ih]; omega
theorem sm_perm {f : Nat → Int} {A B : List Nat} (h : A.Perm B) : sm f A = sm f B := by
  induction h with
  | nil => rfl
  | cons x _ ih => simp only [sm, ih]
  | swap x y l => simp only [sm]; omega
  | trans _ _ h1 h2 => rw [h1, h2]
theorem sm_map_mul {f g : Nat → Int} {h : Nat → Nat} {c : Int} : ∀ {D : List Nat}, (∀ d ∈ D, f (h d) = g d * c) → sm f (D.map h) = sm g D * c := by
  intro D
  induction D with
  | nil => intro _; simp [sm]
  | cons x D ih =>
    intro hd
    simp only [List.map_cons, sm]
    rw [hd x (by simp), ih (fun d h => hd d (by simp [h])), Int.add_mul]
def phiN (n : Nat) : Int := (phis (facl n) : Nat)
/-- Moebius' function, of the list of prime powers. -/
def moeb : List (Nat × Nat) → Int
  | [] => 1
  | x :: l => if 1 < x.2 then 0 else - moeb l
def moeN (n : Nat) : Int := moeb (facl n)
theorem phis_append (A B : List (Nat × Nat)) : phis (A ++ B) = phis A * phis B := by
  induction A with
  | nil => simp [phis]
  | cons x A ih => simp only [List.cons_append, phis, ih]; ac_rfl
theorem moeb_append (A B : List (Nat × Nat)) : moeb (A ++ B) = moeb A * moeb B := by
  induction A with
  | nil => simp [moeb]
  | cons x A ih =>
    simp only [List.cons_append, moeb, ih]
    split
    · simp
    · rw [Int.neg_mul]
theorem phi_mul {d p j : Nat} {l A : List (Nat × Nat)} (hl : IsFac d l) (hp : Pr p) (hlt : ∀ z ∈ A, z.1 < p) (hA : ∀ y ∈ l, ∃ z ∈ A, y.1 = z.1) : phiN (d * p ^ (j + 1)) = phiN d * ((p ^ j * (p - 1) : Nat) : Int) ∧ moeN (d * p ^ (j + 1)) = moeN d * (if j = 0 then -1 else 0) := by
  have h := fac_snoc hl hp hlt hA (show 1 ≤ j + 1 by omega)
  unfold phiN moeN
  rw [facl_eq h, facl_eq hl, phis_append, moeb_append]
  refine ⟨by simp [phis], ?_⟩
  by_cases hj : j = 0
  · subst hj; simp [moeb]
  · rw [if_neg hj]; simp [moeb, show 0 < j by omega]
theorem sum_ext {D : List Nat} {A : List (Nat × Nat)} {p : Nat} (hp : Pr p) (hlt : ∀ z ∈ A, z.1 < p) (hf : ∀ x ∈ D, ∃ l, IsFac x l ∧ ∀ y ∈ l, ∃ z ∈ A, y.1 = z.1) :
    ∀ e, sm phiN (ext D p e) = sm phiN D * ((p ^ e : Nat) : Int) ∧ sm moeN (ext D p e) = if e = 0 then sm moeN D else 0 := by
  have h2 := hp.two
  intro e
  induction e with
  | zero => simp [ext]
  | succ e ih =>
    simp only [ext, sm_append]
    have k1 : sm phiN (D.map (· * p ^ (e + 1))) = sm phiN D * ((p ^ e * (p - 1) : Nat) : Int) := sm_map_mul fun d hd => by
      obtain ⟨l, hl, hlA⟩ := hf d hd
      exact (phi_mul hl hp hlt hlA).1
    have k2 : sm moeN (D.map (· * p ^ (e + 1))) = sm moeN D * (if e = 0 then -1 else 0) := sm_map_mul fun d hd => by
      obtain ⟨l, hl, hlA⟩ := hf d hd
      exact (phi_mul hl hp hlt hlA).2
    rw [k1, k2, ih.1, ih.2, ← Int.mul_add, ← Int.natCast_add]
    refine ⟨?_, ?_⟩
    · congr 2
      obtain ⟨q, rfl⟩ : ∃ q, p = q + 1 := ⟨p - 1, by omega⟩
      rw [Nat.pow_succ, Nat.mul_add]
      simp
      omega
    · by_cases he : e = 0
      · subst he; simp; omega
      · simp [he]
theorem sum_dvl : ∀ {B A : List (Nat × Nat)} {D : List Nat} {M N : Nat}, DL M D A → IsFac N (A ++ B) → sm phiN (dvl D B) = sm phiN D * ((fprod B : Nat) : Int) ∧ sm moeN (dvl D B) = if B = [] then sm moeN D else 0 := by
  intro B
  induction B with
  | nil => intro A D M N h hf; simp [dvl, fprod]
  | cons x B ih =>
    intro A D M N h hf
    have hx := hf.prime x (by simp)
    have hlt : ∀ z ∈ A, z.1 < x.1 := fun z hz => (List.pairwise_append.1 hf.asc).2.2 z hz x (by simp)
    have hD := h.next (fun z hz => hf.prime z (by simp [hz])) hx.1 hlt
    obtain ⟨s1, s2⟩ := ih hD (N := N) (by simpa using hf)
    obtain ⟨e1, e2⟩ := sum_ext hx.1 hlt h.fac x.2
    simp only [dvl, fprod]
    rw [s1, s2, e1, e2]
    refine ⟨by rw [Int.mul_assoc, ← Int.natCast_mul], ?_⟩
    have : x.2 ≠ 0 := by omega
    simp [this]

/-! ### the numbers without a common divisor -/
def cf (P : Nat → Bool) : Nat → Nat
  | 0 => 0
  | m + 1 => cf P m + if P (m + 1) = true then 1 else 0
theorem cf_add (P : Nat → Bool) (a b : Nat) : cf P (a + b) = cf P a + cf (fun i => P (a + i)) b := by
  induction b with
  | zero => simp [cf]
  | succ b ih => rw [← Nat.add_assoc]; simp only [cf, ih, Nat.add_assoc]
theorem cf_congr {P Q : Nat → Bool} : ∀ {m : Nat}, (∀ i, 1 ≤ i → i ≤ m → P i = Q i) → cf P m = cf Q m := by
  intro m
  induction m with
  | zero => intro _; rfl
  | succ m ih =>
    intro h
    simp only [cf]
    rw [ih (fun i h1 h2 => h i h1 (by omega)), h (m + 1) (by omega) (by omega)]
theorem cf_period {P : Nat → Bool} {n : Nat} (h : ∀ i, P (i + n) = P i) : ∀ k, cf P (n * k) = k * cf P n := by
  have hk : ∀ k i, P (n * k + i) = P i := by
    intro k
    induction k with
    | zero => intro i; simp
    | succ k ih =>
      intro i
      rw [Nat.mul_succ, show n * k + n + i = (n * k + i) + n by omega, h, ih]
  intro k
  induction k with
  | zero => simp [cf]
  | succ k ih =>
    rw [Nat.mul_succ, cf_add, ih, Nat.add_mul, Nat.one_mul]
    congr 1
    exact cf_congr fun i _ _ => hk k i
theorem cf_split (P Q : Nat → Bool) (m : Nat) : cf P m = cf (fun i => P i && Q i) m + cf (fun i => P i && !Q i) m := by
  induction m with
  | zero => rfl
  | succ m ih =>
    simp only [cf, ih]
    by_cases hP : P (m + 1) = true <;> by_cases hQ : Q (m + 1) = true <;> simp [hP, hQ] <;> omega
theorem cf_none {P : Nat → Bool} : ∀ {m : Nat}, (∀ i, 1 ≤ i → i ≤ m → P i = false) → cf P m = 0 := by
  intro m
  induction m with
  | zero => intro _; rfl
  | succ m ih =>
    intro h
    simp only [cf]
    rw [ih (fun i h1 h2 => h i h1 (by omega)), h (m + 1) (by omega) (by omega)]
    simp
theorem cf_multiples {p : Nat} (hp : 1 ≤ p) (Q : Nat → Bool) : ∀ m, cf (fun i => Q i && decide (p ∣ i)) (p * m) = cf (fun j => Q (p * j)) m := by
  intro m
  induction m with
  | zero => rfl
  | succ m ih =>
    rw [Nat.mul_succ, cf_add, ih]
    simp only [cf]
    congr 1
    obtain ⟨q, rfl⟩ : ∃ q, p = q + 1 := ⟨p - 1, by omega⟩
    simp only [cf]
    rw [cf_none]
    · have e : (q + 1) * m + (q + 1) = (q + 1) * (m + 1) := by rw [Nat.mul_succ]
      simp [e, show q + 1 ∣ (q + 1) * (m + 1) from Nat.dvd_mul_right _ _]
    · intro i h1 h2
      have : ¬ (q + 1) ∣ (q + 1) * m + i := by
        intro hc
        have := (Nat.dvd_add_right (Nat.dvd_mul_right (q + 1) m)).1 hc
        have := Nat.le_of_dvd (by omega) this
        omega
      simp [this]
def cop (n i : Nat) : Bool := decide (Nat.gcd i n = 1)
theorem cop_period (n i : Nat) : cop n (i + n) = cop n i := by simp [cop]
theorem cop_mul {p n i : Nat} (h : Nat.Coprime p n) : cop n (p * i) = cop n i := by
  unfold cop
  congr 1
  rw [Nat.Coprime.gcd_mul_left_cancel i h]
theorem cop_pow {p m n i : Nat} (hp : Pr p) (hm : 1 ≤ m) : cop (p ^ m * n) i = (cop n i && !decide (p ∣ i)) := by
  rw [Bool.eq_iff_iff]
  simp only [cop, Bool.and_eq_true, decide_eq_true_eq, Bool.not_eq_true', decide_eq_false_iff_not]
  constructor
  · intro h
    have h1 : Nat.Coprime i (p ^ m * n) := h
    refine ⟨Nat.Coprime.coprime_dvd_right (Nat.dvd_mul_left _ _) h1, fun hc => ?_⟩
    have h2 : Nat.Coprime i p := Nat.Coprime.coprime_dvd_right (Nat.dvd_trans (dvd_pow_pos p hm) (Nat.dvd_mul_right _ _)) h1
    have h3 : p = 1 := (Nat.gcd_eq_right hc).symm.trans h2
    have := hp.two
    omega
  · rintro ⟨h1, h2⟩
    exact Nat.Coprime.mul_right (Nat.Coprime.pow_right _ (pr_coprime hp h2).symm) h1
theorem count_step {p m n : Nat} (hp : Pr p) (hm : 1 ≤ m) (hc : Nat.Coprime p n) : cf (cop (p ^ m * n)) (p ^ m * n) = p ^ (m - 1) * (p - 1) * cf (cop n) n := by
  have h2 := hp.two
  have e1 : cf (cop (p ^ m * n)) (p ^ m * n) = cf (fun i => cop n i && !decide (p ∣ i)) (p ^ m * n) := cf_congr fun i _ _ => cop_pow hp hm
  have e2 : p ^ m * n = p * n * p ^ (m - 1) := by
    obtain ⟨k, rfl⟩ : ∃ k, m = k + 1 := ⟨m - 1, by omega⟩
    rw [Nat.pow_succ]
    show p ^ k * p * n = p * n * p ^ k
    ac_rfl
  have hper : ∀ i, (fun i => cop n i && !decide (p ∣ i)) (i + p * n) = (fun i => cop n i && !decide (p ∣ i)) i := by
    intro i
    show (cop n (i + p * n) && !decide (p ∣ i + p * n)) = _
    have a1 : cop n (i + p * n) = cop n i := by simp [cop]
    have a2 : (p ∣ i + p * n) ↔ p ∣ i := (Nat.dvd_add_left (Nat.dvd_mul_right p n))
    rw [a1]
    congr 2
    exact decide_eq_decide.2 a2
  have e3 : cf (cop n) (p * n) = p * cf (cop n) n := by rw [Nat.mul_comm p n]; exact cf_period (cop_period n) p
  have e4 := cf_split (cop n) (fun i => decide (p ∣ i)) (p * n)
  have e5 : cf (fun i => cop n i && decide (p ∣ i)) (p * n) = cf (cop n) n := by
    rw [cf_multiples (by omega)]
    exact cf_congr fun i _ _ => cop_mul hc
  have e6 : cf (fun i => cop n i && !decide (p ∣ i)) (p * n) = (p - 1) * cf (cop n) n := by
    rw [Nat.sub_mul, Nat.one_mul]; rw [e5, e3] at e4; omega
  rw [e1, e2, cf_period hper, e6, Nat.mul_assoc]
theorem count_list : ∀ {l : List (Nat × Nat)}, (∀ x ∈ l, Pr x.1 ∧ 1 ≤ x.2) → l.Pairwise (fun x y => x.1 < y.1) → cf (cop (fprod l)) (fprod l) = phis l := by
  intro l
  induction l with
  | nil => intro _ _; rfl
  | cons x l ih =>
    intro h1 h2
    obtain ⟨h3, h4⟩ := List.pairwise_cons.1 h2
    have hx := h1 x (by simp)
    simp only [fprod, phis]
    rw [count_step hx.1 hx.2 (pr_coprime hx.1 (fac_coprime hx.1 (fun y hy => h1 y (by simp [hy])) h3)), ih (fun y hy => h1 y (by simp [hy])) h4]
theorem count_eq {n : Nat} (h : 1 ≤ n) : cf (cop n) n = phis (facl n) := by
  have hf := facl_fac h
  have := count_list hf.prime hf.asc
  rwa [hf.prod] at this
end Go.Proofs.Ytnppfagghpjkpaa.Num
