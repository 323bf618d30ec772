/- Cost, Hard and Reliability return the specified results, or the specified errors: for all arguments the statement answers true. -/
import Derived.Test.YtdhlogncpgaajaaCa0
import Derived.Test.YtdhlogncpgaajaaCa5
import Derived.Test.YtdhlogncpgaajaaCa6
import Derived.Test.YtdhlogncpgaajaaCa9
import Derived.Test.YtdhlogncpgaajaaCa11
import Derived.Test.YtdhlogncpgaajaaCa12
import Derived.Test.YtdhlogncpgaajaaCa13
import Derived.Test.YtdhlogncpgaajaaCa14
import Derived.Test.YtdhlogncpgaajaaCa15
import Derived.Test.YtdhlogncpgaajaaCa16
import Derived.Test.YtdhlogncpgaajaaCa17
import Derived.Test.YtdhlogncpgaajaaCa18
import Derived.Test.YtdhlogncpgaajaaCa19
import Derived.Test.YtdhlogncpgaajaaCa22
import Derived.Test.YtdhlogncpgaajaaCa23
import Derived.Test.YtdhlogncpgaajaaCa25
import Derived.Test.YtdhlogncpgaajaaCa26
import Derived.Test.YtdhlogncpgaajaaCa27
import Derived.Test.YtdhlogncpgaajaaCa28
import Derived.Test.YtdhlogncpgaajaaCa29
import Derived.Test.YtdhlogncpgaajaaCa30
import Derived.Test.YtdhlogncpgaajaaCa31
namespace Go.Proofs.Ytdhlogncpgaajaa.Ord
set_option linter.unusedVariables false
open Go.RowKit Go.Proofs.YtdhlogncpgaajaaW.PrintWords
theorem pdigits_l0 {p n v : Nat} (hp : 1 ≤ p) (hp2 : p ≤ 256) (hn : n ≤ 1000) (hv : v ≤ 4294967296) : ∀ (d i : Nat) (l : List Int), i + d = n → l.length = n → (∀ j, j < i → vl l j = dig p v j) →
  Ev (fun k => field_digitsOf.l0 k ((v / p ^ i : Nat) : Int) (p : Int) l (n : Int) (i : Int)) (dl p n v) := by
 intro d
 induction d with
 | zero =>
  intro i l hi hl h
  refine Ev.step (fun k => field_digitsOf.l0.eq_2 ..) (ev_no (by omega) ?_)
  have : l = dl p n v := vl_ext (by rw [dl_length, hl]) fun j hj => by rw [vl_dl (by omega), h j (by omega)]
  rw [this]
  exact Ev.now _
 | succ d ih =>
  intro i l hi hl h
  have hle : v / p ^ i ≤ v := Nat.div_le_self ..
  have hle2 : v / p ^ i / p ≤ v := Nat.le_trans (Nat.div_le_self ..) hle
  refine Ev.step (fun k => field_digitsOf.l0.eq_2 ..) (ev_yes (by omega) (ev_no (by omega) (ev_yes (by omega) (ev_yes (by omega) ?_))))
  rw [nat_tdiv, nat_tmod, w64n (by omega), w64 (by omega) (by omega), Nat.div_div_eq_div_mul, ← Nat.pow_succ, Int.toNat_natCast]
  refine ih (i + 1) (l.set i ((v / p ^ i % p : Nat) : Int)) (by omega) (by simpa using hl) fun j hj => ?_
  rw [vl_set _ _ _ _ (by omega)]
  by_cases e : j = i
  ·subst e; rw [if_pos rfl]; rfl
  ·rw [if_neg e]; exact h j (by omega)
theorem pdigits_ev {p n v : Nat} (hp : 1 ≤ p) (hp2 : p ≤ 256) (hn : n ≤ 1000) (hv : v ≤ 4294967296) : Ev (fun k => field_digitsOf.f k (v : Int) (p : Int) (n : Int)) (dl p n v) := by
 unfold field_digitsOf.f
 refine ev_yes (by omega) (ev_yes (by omega) ?_)
 refine ev_let rfl ?_
 have := pdigits_l0 hp hp2 hn hv n 0 (List.replicate n 0) (by omega) (by simp) (fun j hj => by omega)
 simpa using this
theorem pvalue_l0 {p n : Nat} {l : List Int} (hp : 1 ≤ p) (hq : p ^ n ≤ 256) (hp2 : p ≤ 256) (hl : l.length = n) (hn : n ≤ 1000) (hb : ∀ j, j < n → 0 ≤ vl l j ∧ vl l j < p) : ∀ (i d : Nat), i + d = n →
  Ev (fun k => field_valueOf.l0 k l (p : Int) (hi p (vl l) i d) ((i : Int) - 1)) (hi p (vl l) 0 n) := by
 intro i
 induction i with
 | zero =>
  intro d hd
  obtain rfl : d = n := by omega
  exact Ev.step (fun k => field_valueOf.l0.eq_2 ..) (ev_no (by omega) (Ev.now _))
 | succ i ih =>
  intro d hd
  obtain ⟨b1, b2⟩ := hi_bound hp (d + 1) i (a := vl l) (fun j hj => hb j (by omega))
  obtain ⟨b3, b4⟩ := hi_bound hp d (i + 1) (a := vl l) (fun j hj => hb j (by omega))
  have hpd : p ^ (d + 1) ≤ p ^ n := Nat.pow_le_pow_right hp (by omega)
  have e : ((i + 1 : Nat) : Int) - 1 = (i : Int) := by omega
  have hx := hb i (by omega)
  simp only [hi] at b1 b2
  have k1 : 0 ≤ hi p (vl l) (i + 1) d * (p : Int) := Int.mul_nonneg b3 (by omega)
  refine Ev.step (fun k => field_valueOf.l0.eq_2 ..) ?_
  rw [e, rd_vl]
  refine ev_yes (by omega) (ev_yes (by omega) (ev_yes (by omega) ?_))
  rw [w64 (x := hi p (vl l) (i + 1) d * (p : Int)) (by omega) (by omega), w64 (x := _ + vl l i) (by omega) (by omega), w64 (x := (i : Int) - 1) (by omega) (by omega), Int.add_comm (_ * _)]
  exact ih (d + 1) (by omega)
theorem pvalue_ev {p n : Nat} {l : List Int} (hp : 1 ≤ p) (hq : p ^ n ≤ 256) (hp2 : p ≤ 256) (hl : l.length = n) (hn : n ≤ 1000) (hb : ∀ j, j < n → 0 ≤ vl l j ∧ vl l j < p) :
  Ev (fun k => field_valueOf.f k l (p : Int)) ((enc p (vl l) n : Nat) : Int) := by
 unfold field_valueOf.f
 rw [hl, w64 (by omega) (by omega)]
 have h := pvalue_l0 hp hq hp2 hl hn hb n 0 (by omega)
 have e := vv_hi p (vl l) n 0
 rw [Nat.zero_add] at e
 simp [vv] at e
 rw [← vv_enc hb, e]
 exact h
theorem vl_shift {l : List Int} {n : Nat} (hn : n < l.length) (j : Nat) (hj : j < n + 1) : vl ((shiftUp l n).set 0 0) j = if j = 0 then 0 else vl l (j - 1) := by
 rw [vl_set _ _ _ _ (by rw [shiftUp_length _ _ hn]; omega)]
 by_cases h0 : j = 0
 ·rw [if_pos h0, if_pos h0]
 ·rw [if_neg h0, if_neg h0]
  unfold shiftUp vl
  rw [List.getD_eq_getElem?_getD, List.getD_eq_getElem?_getD]
  congr 1
  have h1 : (l.take 1).length = 1 := by rw [List.length_take]; omega
  rw [List.getElem?_append_right (by omega), h1, List.getElem?_append_left (by rw [List.length_take]; omega), List.getElem?_take]
  rw [if_pos (by omega)]
theorem mx_digit {p n lo x y d : Nat} (hp : 2 ≤ p) (z : Nat) (hz : z < p ^ (n + 1)) (j : Nat) (hj : j < n + 1) :
  dig p (da p (n + 1) (ds p (y % p) (n + 1) x) (tx p n lo z)) j = ((if j = 0 then 0 else dig p z (j - 1)) + ((p : Int) - dig p z n) * dig p lo j + ((y % p : Nat) : Int) * dig p x j) % (p : Int) := by
 have h1 : 1 ≤ p := by omega
 have htop : z / p ^ n < p := Nat.div_lt_of_lt_mul (by rw [Nat.pow_succ] at hz; exact hz)
 have hd : dig p z n = ((z / p ^ n : Nat) : Int) := by unfold dig; rw [Nat.mod_eq_of_lt htop]
 rw [da_dig h1 _ _ _ _ hj, ds_dig h1 _ _ _ _ hj]
 unfold tx
 rw [da_dig h1 _ _ _ _ hj, ds_dig h1 _ _ _ _ hj]
 have e2 : dig p (z % p ^ n * p) j = if j = 0 then 0 else dig p z (j - 1) := by
  cases j with
  | zero =>
   rw [if_pos rfl, dig_at0, Nat.mul_mod_left]; rfl
  | succ j =>
   rw [if_neg (by omega), ← dig_div, Nat.mul_div_cancel _ (show 0 < p by omega)]
   show dig p (z % p ^ n) j = dig p z j
   unfold dig
   congr 1
   have e : p ^ n = p ^ j * (p * p ^ (n - j - 1)) := by rw [← Nat.mul_assoc, ← Nat.pow_succ, ← Nat.pow_add]; congr 1; omega
   rw [e, Nat.mod_mul_right_div_self, Nat.mod_mul_right_mod]
 rw [e2, hd, show ((p - z / p ^ n : Nat) : Int) = (p : Int) - ((z / p ^ n : Nat) : Int) by omega]
 rw [Int.add_comm]
 refine emod_add_congr ?_ (Int.emod_emod_of_dvd _ (Int.dvd_refl _))
 rw [Int.emod_emod_of_dvd _ (Int.dvd_refl _)]
 exact emod_add_congr rfl (Int.emod_emod_of_dvd _ (Int.dvd_refl _))
theorem loc_dig {p m : Nat} {mod : List Int} (hp : 1 ≤ p) (h1 : m ≠ 1) (hmod : Dg p mod) (j : Nat) (hj : j < m) : dig p (loc p m mod) j = vl mod j := by
 unfold loc
 rw [if_neg h1, dig_enc hp _ _ _ hj]
 exact Int.emod_eq_of_lt (hmod j).1 (hmod j).2
section
variable {p m : Nat} (h : Pm p m) {mod : List Int} (hmod : m ≠ 1 → Dg p mod ∧ mod.length = m) {x y : Nat} (hx : x < p ^ m) (hy : y < p ^ m)
include h hmod hx hy
theorem pmul_l1 {i : Nat} (hi : i < m) {z : Nat} (hz : z < p ^ m) {S : List Int} (hS : ∀ j, j < m → vl S j = if j = 0 then 0 else dig p z (j - 1)) {r : Int}
  (H : Ev (fun k => field_multiply.l0 k (dl p m x) (dl p m y) (dl p m (da p m (ds p (y / p ^ i % p) m x) (tx p (m - 1) (loc p m mod) z))) ((i : Int) - 1) (p : Int) (m : Int) mod) r) :
  ∀ (d t : Nat) (l : List Int), t + d = m → l.length = m → (∀ j, j < t → vl l j = dig p (da p m (ds p (y / p ^ i % p) m x) (tx p (m - 1) (loc p m mod) z)) j) → (∀ j, t ≤ j → j < m → vl l j = vl S j) →
  Ev (fun k => field_multiply.l1 k (dl p m x) (dl p m y) l (i : Int) (dig p z (m - 1)) (m : Int) (t : Int) (p : Int) (m : Int) mod) r := by
 have h2 := h.p2
 have h3 := h.m1
 have h4 := h.m8
 have h256 := h.p256
 have hm1 : m - 1 + 1 = m := by omega
 intro d
 induction d with
 | zero =>
  intro t l ht hl h1 _
  obtain rfl : t = m := by omega
  refine Ev.step (fun k => field_multiply.l1.eq_2 ..) (ev_no (by omega) ?_)
  have : l = dl p t (da p t (ds p (y / p ^ i % p) t x) (tx p (t - 1) (loc p t mod) z)) := vl_ext (by rw [dl_length, hl]) fun j hj => by rw [vl_dl (by omega), h1 j (by omega)]
  rw [this, w64 (by omega) (by omega)]
  exact H
 | succ d ih =>
  intro t l ht hl ha hb
  have hdig := mx_digit (n := m - 1) (lo := loc p m mod) (x := x) (y := y / p ^ i) (d := 0) h2 z (by rw [hm1]; exact hz) t (by omega)
  rw [hm1] at hdig
  have hlt : vl l t = if t = 0 then 0 else dig p z (t - 1) := by rw [hb t (Nat.le_refl _) (by omega), hS t (by omega)]
  have b1 : 0 ≤ vl l t ∧ vl l t < p := by
   rw [hlt]; split
   ·omega
   ·exact dig_lt (by omega) _ _
  have b2 := dig_lt (show 1 ≤ p by omega) z (m - 1)
  have b3 := dig_lt (show 1 ≤ p by omega) x t
  have b4 := dig_lt (show 1 ≤ p by omega) y i
  have eb : dig p y i = ((y / p ^ i % p : Nat) : Int) := rfl
  have b7 := small_mul (p := p) h256 b4.1 (by omega) b3.1 b3.2
  have fin : ∀ v : Int, v = dig p (da p m (ds p (y / p ^ i % p) m x) (tx p (m - 1) (loc p m mod) z)) t → Ev (fun k => field_multiply.l1 k (dl p m x) (dl p m y) (l.set t v) (i : Int) (dig p z (m - 1)) (m : Int) (wrap64 ((t : Int) + 1)) (p : Int) (m : Int) mod) r := fun v hv => by
   rw [show wrap64 ((t : Int) + 1) = ((t + 1 : Nat) : Int) by rw [w64 (by omega) (by omega)]; omega]
   refine ih (t + 1) _ (by omega) (by simpa using hl) (fun j hj => ?_) (fun j hj hj2 => ?_)
   ·rw [vl_set _ _ _ _ (by omega)]
    by_cases e : j = t
    ·rw [if_pos e, hv, e]
    ·rw [if_neg e]; exact ha j (by omega)
   ·rw [vl_set _ _ _ _ (by omega), if_neg (by omega)]
    exact hb j (by omega) hj2
  refine Ev.step (fun k => field_multiply.l1.eq_2 ..) (ev_yes (by omega) ?_)
  have hlx : (dl p m x).length = m := dl_length ..
  have hly : (dl p m y).length = m := dl_length ..
  rw [rd_vl, rd_vl, rd_vl, rd_vl, vl_dl hi, vl_dl (show t < m by omega), Int.toNat_natCast]
  by_cases hm : m = 1
  ·refine ev_no (by omega) (ev_yes (by omega) (ev_yes (by omega) (ev_yes (by omega) (ev_yes (by omega) (ev_yes (by omega) (ev_no (by omega) ?_))))))
   refine fin _ ?_
   rw [hdig]
   have hlo : dig p (loc p m mod) t = 0 := by unfold loc; rw [if_pos hm]; exact dig_zero p t
   rw [hlo, Int.mul_zero, Int.add_zero, ← hlt, ← eb, w64 (x := 0) (by omega) (by omega), Int.add_zero, w64 (x := vl l t) (by omega) (by omega), w64 (x := dig p y i * dig p x t) (by omega) (by omega), w64 (by omega) (by omega)]
   exact (tmod_nonneg (by omega) (by omega)).1
  ·obtain ⟨hd, hlm⟩ := hmod hm
   have hlo := loc_dig (m := m) (show 1 ≤ p by omega) hm hd t (by omega)
   have b5 := hd t
   have b6 := small_mul (p := p) (x := (p : Int) - dig p z (m - 1)) h256 (by omega) (by omega) b5.1 b5.2
   refine ev_yes (by omega) (ev_yes (by omega) (ev_yes (by omega) (ev_yes (by omega) (ev_yes (by omega) (ev_yes (by omega) (ev_yes (by omega) (ev_no (by omega) ?_)))))))
   refine fin _ ?_
   rw [hdig, hlo, ← hlt, ← eb, w64 (x := (p : Int) - dig p z (m - 1)) (by omega) (by omega), w64 (x := ((p : Int) - dig p z (m - 1)) * vl mod t) (by omega) (by omega), w64 (x := vl l t + _) (by omega) (by omega), w64 (x := dig p y i * dig p x t) (by omega) (by omega), w64 (by omega) (by omega)]
   exact (tmod_nonneg (by omega) (by omega)).1
theorem pmul_l0 : ∀ (i d : Nat), i + d = m → Ev (fun k => field_multiply.l0 k (dl p m x) (dl p m y) (dl p m (mx p (m - 1) (loc p m mod) x d (y / p ^ i))) ((i : Int) - 1) (p : Int) (m : Int) mod) ((mx p (m - 1) (loc p m mod) x m y : Nat) : Int) := by
 have h2 := h.p2
 have h3 := h.m1
 have h4 := h.m8
 have h256 := h.p256
 have hm1 : m - 1 + 1 = m := by omega
 intro i
 induction i with
 | zero =>
  intro d hd
  obtain rfl : d = m := by omega
  refine Ev.step (fun k => field_multiply.l0.eq_2 ..) (ev_no (by omega) ?_)
  rw [Nat.pow_zero, Nat.div_one]
  have hlt := mx_lt (p := p) (n := d - 1) (lo := loc p d mod) (x := x) (by omega) d y
  rw [hm1] at hlt
  refine Ev.bind (pvalue_ev (n := d) (by omega) h.q h256 (dl_length ..) (by omega) (fun j hj => by rw [vl_dl hj]; exact dig_lt (by omega) _ _)) (ev_const ?_)
  have : enc p (vl (dl p d (mx p (d - 1) (loc p d mod) x d y))) d = mx p (d - 1) (loc p d mod) x d y := by
   refine Eq.trans (enc_congr fun j hj => ?_) (enc_dig (by omega) _ _ hlt)
   rw [vl_dl hj]
  rw [this]
 | succ i ih =>
  intro d hd
  have hz := mx_lt (p := p) (n := m - 1) (lo := loc p m mod) (x := x) (by omega) d (y / p ^ (i + 1))
  rw [hm1] at hz
  obtain ⟨z, hzz⟩ : ∃ z, mx p (m - 1) (loc p m mod) x d (y / p ^ (i + 1)) = z := ⟨_, rfl⟩
  rw [hzz] at hz ⊢
  have hln : (dl p m z).length = m := dl_length ..
  have hsh : main_main.f (dl p m z) ((m - 1 : Nat) : Int) = some (shiftUp (dl p m z) (m - 1)) := by
   unfold main_main.f
   rw [if_pos (by omega), Int.toNat_natCast]
  refine Ev.step (fun k => field_multiply.l0.eq_2 ..) (ev_yes (by omega) ?_)
  rw [show ((i + 1 : Nat) : Int) - 1 = (i : Int) by omega, show wrap64 ((m : Int) - 1) = ((m - 1 : Nat) : Int) by rw [w64 (by omega) (by omega)]; omega]
  refine ev_yes (by omega) (ev_yes (by omega) (ev_let hsh (ev_yes (by omega) ?_)))
  rw [rd_vl, vl_dl (show m - 1 < m by omega), hln]
  have hnext := ih (d + 1) (by omega)
  have e : mx p (m - 1) (loc p m mod) x (d + 1) (y / p ^ i) = da p m (ds p (y / p ^ i % p) m x) (tx p (m - 1) (loc p m mod) z) := by
   show da p (m - 1 + 1) (ds p (y / p ^ i % p) (m - 1 + 1) x) (tx p (m - 1) (loc p m mod) (mx p (m - 1) (loc p m mod) x d (y / p ^ i / p))) = _
   rw [hm1, Nat.div_div_eq_div_mul, ← Nat.pow_succ, hzz]
  rw [e] at hnext
  refine pmul_l1 h hmod hx hy (S := (shiftUp (dl p m z) (m - 1)).set 0 0) (by omega) hz (fun j hj => ?_) hnext m 0 _ (by omega) ?_ (fun j hj => absurd hj (by omega)) (fun j _ _ => rfl)
  ·rw [vl_shift (by omega) j (by omega)]
   by_cases h0 : j = 0
   ·rw [if_pos h0, if_pos h0]
   ·rw [if_neg h0, if_neg h0, vl_dl (by omega)]
  ·show ((shiftUp (dl p m z) (m - 1)).set 0 0).length = m
   rw [List.length_set, shiftUp_length _ _ (by omega), hln]
theorem pmul_ev : Ev (fun k => field_multiply.f k (p : Int) (m : Int) mod (x : Int) (y : Int)) ((mx p (m - 1) (loc p m mod) x m y : Nat) : Int) := by
 have h2 := h.p2
 have h3 := h.m1
 have h4 := h.m8
 have h256 := h.p256
 have hq := h.q
 unfold field_multiply.f
 refine Ev.bind (pdigits_ev (by omega) h256 (by omega) (by omega)) (Ev.bind (pdigits_ev (by omega) h256 (by omega) (by omega)) (ev_yes (by omega) (ev_yes (by omega) ?_)))
 have := pmul_l0 h hmod hx hy m 0 (by omega)
 have e : dl p m (mx p (m - 1) (loc p m mod) x 0 (y / p ^ m)) = List.replicate (m : Int).toNat 0 := by
  refine vl_ext (by rw [dl_length, List.length_replicate]; omega) fun j hj => ?_
  rw [dl_length] at hj
  rw [vl_dl hj]
  show dig p 0 j = _
  rw [dig_zero]
  unfold vl
  rw [List.getD_eq_getElem?_getD, List.getElem?_replicate, if_pos (by omega)]; rfl
 rw [e] at this
 rw [w64 (by omega) (by omega)]
 exact this
theorem pmul_cm : Ev (fun k => field_multiply.f k (p : Int) (m : Int) mod (x : Int) (y : Int)) ((cm (res p (m - 1) (loc p m mod)) p x y : Nat) : Int) := by
 have h3 := h.m1
 have hm1 : m - 1 + 1 = m := by omega
 have := mx_eq (p := p) (n := m - 1) (lo := loc p m mod) (x := x) (y := y) h.p2 (by rw [hm1]; exact hx)
 rw [hm1] at this
 rw [← this]
 exact pmul_ev h hmod hx hy
end
end Go.Proofs.Ytdhlogncpgaajaa.Ord
namespace Go.Proofs.Ytdhlogncpgaajaa.Ord
set_option linter.unusedVariables false
open Go.RowKit Go.Proofs.YtdhlogncpgaajaaW.PrintWords
def pl (mu : Nat → Nat → Nat) (x n : Nat) : List Int := (List.range n).map fun i => ((pw mu x i : Nat) : Int)
theorem pl_length (mu : Nat → Nat → Nat) (x n : Nat) : (pl mu x n).length = n := by simp [pl]
theorem vl_pl {mu : Nat → Nat → Nat} {x n j : Nat} (h : j < n) : vl (pl mu x n) j = ((pw mu x j : Nat) : Int) := by
 unfold vl pl
 rw [List.getD_eq_getElem?_getD]
 simp [h]
theorem pl_succ (mu : Nat → Nat → Nat) (x n : Nat) : pl mu x (n + 1) = pl mu x n ++ [((pw mu x n : Nat) : Int)] := by
 unfold pl
 rw [List.range_succ, List.map_append]; rfl
def Pd (mu : Nat → Nat → Nat) (x n : Nat) : Prop := (∀ i, i < n → pw mu x i ≠ 0) ∧ ∀ i j, i < n → j < n → pw mu x i = pw mu x j → i = j
section
variable {p m : Nat} (h : Pm p m) {mod : List Int} (hmod : m ≠ 1 → Dg p mod ∧ mod.length = m)
include h hmod
theorem powers_l0 {x : Nat} (hx : x < p ^ m) : ∀ (d n : Nat) (u : List Bool), n + d = p ^ m → 1 ≤ n → Pd (cm (res p (m - 1) (loc p m mod)) p) x n → u.length = p ^ m → (∀ v, v < p ^ m → (rdOf false u (v : Int) = true ↔ ∃ i, i < n ∧ pw (cm (res p (m - 1) (loc p m mod)) p) x i = v)) →
  ∃ N, Pd (cm (res p (m - 1) (loc p m mod)) p) x N ∧ 1 ≤ N ∧ N < p ^ m ∧ (pw (cm (res p (m - 1) (loc p m mod)) p) x N = 0 ∨ ∃ i, i < N ∧ pw (cm (res p (m - 1) (loc p m mod)) p) x i = pw (cm (res p (m - 1) (loc p m mod)) p) x N) ∧ Ev (fun k => field_powers.l0 k (x : Int) (pl (cm (res p (m - 1) (loc p m mod)) p) x n) u ((pw (cm (res p (m - 1) (loc p m mod)) p) x n : Nat) : Int) (p : Int) (m : Int) mod) (pl (cm (res p (m - 1) (loc p m mod)) p) x N) := by
 have M := res_mon h (loc p m mod)
 have hq := h.q
 obtain ⟨mu, hmu⟩ : ∃ mu, mu = cm (res p (m - 1) (loc p m mod)) p := ⟨_, rfl⟩
 have hmul := fun (a b : Nat) (ha : a < p ^ m) (hb : b < p ^ m) => pmul_cm h hmod ha hb
 rw [← hmu] at M hmul ⊢
 have hle : ∀ n, Pd mu x n → n < p ^ m := fun n hd => by
  rcases Nat.lt_or_ge n (p ^ m) with h1 | h1
  ·exact h1
  ·obtain ⟨i, hi, e⟩ := pigeon (p ^ m) (pw mu x) (fun i _ => M.pw_lt hx i) (fun i j hi hj e => hd.2 i j (by omega) (by omega) e) 0 (by have := M.two; omega)
   exact absurd e (hd.1 i (by omega))
 intro d
 induction d with
 | zero => intro n u hn _ hd; have := hle n hd; omega
 | succ d ih =>
  intro n u hn hn1 hd hu hus
  have ht := M.pw_lt hx n
  by_cases h0 : pw mu x n = 0
  ·refine ⟨n, hd, hn1, by omega, .inl h0, Ev.step (fun k => field_powers.l0.eq_2 ..) (ev_yes (by omega) (Ev.now _))⟩
  ·by_cases h1 : ∃ i, i < n ∧ pw mu x i = pw mu x n
   ·refine ⟨n, hd, hn1, by omega, .inr h1, Ev.step (fun k => field_powers.l0.eq_2 ..) (ev_no (by omega) (ev_yes (by omega) (ev_yes (by omega) (ev_yes ((hus _ ht).2 h1) (Ev.now _)))))⟩
   ·have hd' : Pd mu x (n + 1) := by
     refine ⟨fun i hi => ?_, fun i j hi hj e => ?_⟩
     ·rcases Nat.lt_or_ge i n with h2 | h2
      ·exact hd.1 i h2
      ·obtain rfl : i = n := by omega
       exact h0
     ·rcases Nat.lt_or_ge i n with h2 | h2
      ·rcases Nat.lt_or_ge j n with h3 | h3
       ·exact hd.2 i j h2 h3 e
       ·obtain rfl : j = n := by omega
        exact absurd ⟨i, h2, e⟩ h1
      ·obtain rfl : i = n := by omega
       rcases Nat.lt_or_ge j i with h3 | h3
       ·exact absurd ⟨j, h3, e.symm⟩ h1
       ·omega
    obtain ⟨N, hN, hN1, hN2, hN3, hev⟩ := ih (n + 1) (u.set (pw mu x n) true) (by omega) (by omega) hd' (by simpa using hu) (fun v hv => by
     unfold rdOf
     rw [Int.toNat_natCast, List.getD_eq_getElem?_getD]
     by_cases e : v = pw mu x n
     ·rw [e, List.getElem?_set_self (by omega)]
      simp only [Option.getD_some, true_iff]
      exact ⟨n, by omega, rfl⟩
     ·rw [List.getElem?_set_ne (fun e' => e e'.symm)]
      have := hus v hv
      unfold rdOf at this
      rw [Int.toNat_natCast, List.getD_eq_getElem?_getD] at this
      rw [this]
      exact ⟨fun ⟨i, hi, e2⟩ => ⟨i, by omega, e2⟩, fun ⟨i, hi, e2⟩ => ⟨i, by
       rcases Nat.lt_or_ge i n with h2 | h2
       ·exact h2
       ·obtain rfl : i = n := by omega
        exact absurd e2.symm e, e2⟩⟩)
    refine ⟨N, hN, hN1, hN2, hN3, Ev.step (fun k => field_powers.l0.eq_2 ..) (ev_no (by omega) (ev_yes (by omega) (ev_yes (by omega) (ev_no (fun hc => h1 ((hus _ ht).1 hc)) (ev_yes (by rw [pl_length]; omega) (Ev.bind (hmul _ _ ht hx) ?_))))))⟩
    rw [pl_succ] at hev
    rw [Int.toNat_natCast]
    exact hev
theorem powers_ev {x : Nat} (hx : x < p ^ m) : ∃ N, Pd (cm (res p (m - 1) (loc p m mod)) p) x N ∧ 1 ≤ N ∧ N < p ^ m ∧ (pw (cm (res p (m - 1) (loc p m mod)) p) x N = 0 ∨ ∃ i, i < N ∧ pw (cm (res p (m - 1) (loc p m mod)) p) x i = pw (cm (res p (m - 1) (loc p m mod)) p) x N) ∧ Ev (fun k => field_powers.f k (p : Int) (m : Int) mod ((p ^ m : Nat) : Int) (x : Int)) (pl (cm (res p (m - 1) (loc p m mod)) p) x N) := by
 have M := res_mon h (loc p m mod)
 have hq := h.q
 have h2 := M.two
 obtain ⟨N, hN, hN1, hN2, hN3, hev⟩ := powers_l0 h hmod hx (p ^ m - 1) 1 ((List.replicate (p ^ m) false).set 1 true) (by omega) (by omega) ⟨fun i hi => by
   obtain rfl : i = 0 := by omega
   show (1 : Nat) ≠ 0
   omega, fun i j hi hj _ => by omega⟩ (by simp) (fun v hv => by
   unfold rdOf
   rw [Int.toNat_natCast, List.getD_eq_getElem?_getD]
   by_cases e : v = 1
   ·rw [e, List.getElem?_set_self (by simp; omega)]
    simp only [Option.getD_some, true_iff]
    exact ⟨0, by omega, rfl⟩
   ·rw [List.getElem?_set_ne (fun e' => e e'.symm), List.getElem?_replicate, if_pos hv]
    simp only [Option.getD_some]
    constructor
    ·intro h; cases h
    ·rintro ⟨i, hi, e2⟩
     obtain rfl : i = 0 := by omega
     exact absurd e2.symm e)
 refine ⟨N, hN, hN1, hN2, hN3, ?_⟩
 unfold field_powers.f
 refine ev_yes (by omega) (ev_yes (by omega) ?_)
 rw [Int.toNat_natCast]
 refine ev_let rfl (ev_yes (by rw [List.length_replicate]; omega) ?_)
 have e1 : pw (cm (res p (m - 1) (loc p m mod)) p) x 1 = x := by
  show cm (res p (m - 1) (loc p m mod)) p 1 x = x
  rw [M.comm 1 x (by omega) hx, M.one x hx]
 rw [e1] at hev
 exact hev
theorem gen_l0 : ∀ (d x : Nat), x + d = p ^ m → 1 ≤ x →
  (∃ g, IsGen (p ^ m) (cm (res p (m - 1) (loc p m mod)) p) g ∧ Ev (fun k => field_generator.l0 k ((p ^ m : Nat) : Int) (x : Int) (p : Int) (m : Int) mod) (pl (cm (res p (m - 1) (loc p m mod)) p) g (p ^ m - 1))) ∨
  ((∀ g, x ≤ g → ¬ IsGen (p ^ m) (cm (res p (m - 1) (loc p m mod)) p) g) ∧ Ev (fun k => field_generator.l0 k ((p ^ m : Nat) : Int) (x : Int) (p : Int) (m : Int) mod) []) := by
 have M := res_mon h (loc p m mod)
 have hq := h.q
 have h2 := M.two
 intro d
 induction d with
 | zero =>
  intro x hx _
  exact .inr ⟨fun g hg G => by have := G.lt; omega, Ev.step (fun k => field_generator.l0.eq_2 ..) (ev_no (by omega) (Ev.now _))⟩
 | succ d ih =>
  intro x hxd hx1
  have hx : x < p ^ m := by omega
  obtain ⟨N, hN, hN1, hN2, hN3, hev⟩ := powers_ev h hmod hx
  have ih' := ih (x + 1) (by omega) (by omega)
  obtain ⟨mu, hmu⟩ : ∃ mu, mu = cm (res p (m - 1) (loc p m mod)) p := ⟨_, rfl⟩
  have hmul := fun (a b : Nat) (ha : a < p ^ m) (hb : b < p ^ m) => pmul_cm h hmod ha hb
  rw [← hmu] at M hN hN3 hev ih' hmul ⊢
  have hw1 : wrap64 (((p ^ m : Nat) : Int) - 1) = ((p ^ m - 1 : Nat) : Int) := by rw [w64 (by omega) (by omega)]; omega
  have hw2 : wrap64 (((p ^ m : Nat) : Int) - 2) = ((p ^ m - 2 : Nat) : Int) := by rw [w64 (by omega) (by omega)]; omega
  have hwx : wrap64 ((x : Int) + 1) = ((x + 1 : Nat) : Int) := by rw [w64 (by omega) (by omega)]; omega
  have hGN : IsGen (p ^ m) mu x → N = p ^ m - 1 ∧ pw mu x (p ^ m - 1) = 1 := fun G => by
   refine ⟨?_, G.last⟩
   rcases Nat.lt_or_ge N (p ^ m - 1) with h3 | h3
   ·rcases hN3 with h4 | ⟨i, hi, h4⟩
    ·exact absurd h4 (G.ne_zero M N h3)
    ·have := G.inj i N (by omega) h3 h4
     omega
   ·omega
  have next : ¬ IsGen (p ^ m) mu x → Ev (fun k => field_generator.l0 k ((p ^ m : Nat) : Int) (x : Int) (p : Int) (m : Int) mod) = Ev (fun k => field_generator.l0 k ((p ^ m : Nat) : Int) (x : Int) (p : Int) (m : Int) mod) := fun _ => rfl
  clear next
  by_cases c1 : N = p ^ m - 1
  ·have hlast : pw mu x (p ^ m - 1) = mu (pw mu x (p ^ m - 2)) x := by
    rw [show p ^ m - 1 = (p ^ m - 2) + 1 by omega]; rfl
   have hm2 := hmul (pw mu x (p ^ m - 2)) x (M.pw_lt hx _) hx
   rw [← hlast] at hm2
   by_cases c2 : pw mu x (p ^ m - 1) = 1
   ·refine .inl ⟨x, ⟨hx, c2, fun i j hi hj e => hN.2 i j (by omega) (by omega) e⟩, ?_⟩
    refine Ev.step (fun k => field_generator.l0.eq_2 ..) (ev_yes (by omega) (Ev.bind hev ?_))
    rw [hw1, hw2, pl_length, c1]
    refine ev_yes rfl (ev_yes (by omega) (ev_yes (by omega) ?_))
    rw [rd_vl, vl_pl (by omega)]
    exact Ev.bind hm2 (ev_yes (by rw [c2]; rfl) (Ev.now _))
   ·have hng : ¬ IsGen (p ^ m) mu x := fun G => c2 G.last
    have step : ∀ r, Ev (fun k => field_generator.l0 k ((p ^ m : Nat) : Int) ((x + 1 : Nat) : Int) (p : Int) (m : Int) mod) r → Ev (fun k => field_generator.l0 k ((p ^ m : Nat) : Int) (x : Int) (p : Int) (m : Int) mod) r := fun r hr => by
     refine Ev.step (fun k => field_generator.l0.eq_2 ..) (ev_yes (by omega) (Ev.bind hev ?_))
     rw [hw1, hw2, hwx, pl_length, c1]
     refine ev_yes rfl (ev_yes (by omega) (ev_yes (by omega) ?_))
     rw [rd_vl, vl_pl (by omega)]
     exact Ev.bind hm2 (ev_no (by omega) hr)
    rcases ih' with ⟨g, G, hg⟩ | ⟨hno, hg⟩
    ·exact .inl ⟨g, G, step _ hg⟩
    ·refine .inr ⟨fun g hg' G => ?_, step _ hg⟩
     rcases Nat.eq_or_lt_of_le hg' with e | e
     ·subst e; exact hng G
     ·exact hno g (by omega) G
  ·have hng : ¬ IsGen (p ^ m) mu x := fun G => c1 (hGN G).1
   have step : ∀ r, Ev (fun k => field_generator.l0 k ((p ^ m : Nat) : Int) ((x + 1 : Nat) : Int) (p : Int) (m : Int) mod) r → Ev (fun k => field_generator.l0 k ((p ^ m : Nat) : Int) (x : Int) (p : Int) (m : Int) mod) r := fun r hr => by
    refine Ev.step (fun k => field_generator.l0.eq_2 ..) (ev_yes (by omega) (Ev.bind hev ?_))
    rw [hw1, hwx, pl_length]
    exact ev_no (by omega) hr
   rcases ih' with ⟨g, G, hg⟩ | ⟨hno, hg⟩
   ·exact .inl ⟨g, G, step _ hg⟩
   ·refine .inr ⟨fun g hg' G => ?_, step _ hg⟩
    rcases Nat.eq_or_lt_of_le hg' with e | e
    ·subst e; exact hng G
    ·exact hno g (by omega) G
theorem gen_ev : (∃ g, IsGen (p ^ m) (cm (res p (m - 1) (loc p m mod)) p) g ∧ Ev (fun k => field_generator.f k (p : Int) (m : Int) mod ((p ^ m : Nat) : Int)) (pl (cm (res p (m - 1) (loc p m mod)) p) g (p ^ m - 1))) ∨
  ((∀ g, ¬ IsGen (p ^ m) (cm (res p (m - 1) (loc p m mod)) p) g) ∧ Ev (fun k => field_generator.f k (p : Int) (m : Int) mod ((p ^ m : Nat) : Int)) []) := by
 have M := res_mon h (loc p m mod)
 have h2 := M.two
 unfold field_generator.f
 rcases gen_l0 h hmod (p ^ m - 1) 1 (by omega) (by omega) with ⟨g, G, hg⟩ | ⟨hno, hg⟩
 ·exact .inl ⟨g, G, hg⟩
 ·refine .inr ⟨fun g G => ?_, hg⟩
  rcases Nat.eq_zero_or_pos g with e | e
  ·have h3 := G.last
   subst e
   rw [show p ^ m - 1 = (p ^ m - 2) + 1 by omega] at h3
   have h4 : cm (res p (m - 1) (loc p m mod)) p (pw (cm (res p (m - 1) (loc p m mod)) p) 0 (p ^ m - 2)) 0 = 1 := h3
   rw [M.zero _ (M.pw_lt (by omega) _)] at h4
   omega
  ·exact hno g e G
end
theorem lgs_at {q : Nat} {mu : Nat → Nat → Nat} {g : Nat} (M : Mon q mu) (G : IsGen q mu g) : ∀ n, n ≤ q - 1 → ∀ i, i < n → vl (lgs q (pl mu g (q - 1)) n) (pw mu g i) = (i : Int) := by
 have h2 := M.two
 intro n
 induction n with
 | zero => intro _ i hi; omega
 | succ n ih =>
  intro hn i hi
  unfold lgs
  rw [rd_vl, vl_pl (by omega), Int.toNat_natCast, vl_set _ _ _ _ (by rw [lgs_length]; exact M.pw_lt G.lt n)]
  by_cases e : pw mu g i = pw mu g n
  ·rw [if_pos e, G.inj i n (by omega) (by omega) e]
  ·rw [if_neg e]
   refine ih (by omega) i ?_
   rcases Nat.lt_or_ge i n with h3 | h3
   ·exact h3
   ·obtain rfl : i = n := by omega
    exact absurd rfl e
theorem tab_of {q : Nat} {mu : Nat → Nat → Nat} {g : Nat} (M : Mon q mu) (G : IsGen q mu g) (hq : q ≤ 256) : Tab q mu g (pl mu g (q - 1)) (lgs q (pl mu g (q - 1)) (pl mu g (q - 1)).length) :=
 ⟨M, G, hq, pl_length .., lgs_length .., fun i hi => vl_pl hi, fun i hi => by rw [pl_length]; exact lgs_at M G _ (Nat.le_refl _) i hi⟩
end Go.Proofs.Ytdhlogncpgaajaa.Ord
namespace Go.Proofs.Ytdhlogncpgaajaa.Ord
set_option linter.unusedVariables false
open Go.RowKit Go.Proofs.YtdhlogncpgaajaaW.PrintWords
theorem da_zero (p : Nat) : ∀ m, da p m 0 0 = 0
 | 0 => rfl
 | m + 1 => by unfold da; simp [da_zero p m]
theorem ds_zero (p c : Nat) : ∀ m, ds p c m 0 = 0
 | 0 => rfl
 | m + 1 => by unfold ds; simp [ds_zero p c m]
theorem xor_mod2 (a b : Nat) : (a ^^^ b) % 2 = (a % 2 + b % 2) % 2 := by
 have h : ((a ^^^ b).testBit 0) = (a.testBit 0 ^^ b.testBit 0) := Nat.testBit_xor ..
 rw [Nat.testBit_zero, Nat.testBit_zero, Nat.testBit_zero] at h
 have h1 := Nat.mod_two_eq_zero_or_one (a ^^^ b)
 have h2 := Nat.mod_two_eq_zero_or_one a
 have h3 := Nat.mod_two_eq_zero_or_one b
 rcases h1 with h1 | h1 <;> rcases h2 with h2 | h2 <;> rcases h3 with h3 | h3 <;> simp [h1, h2, h3] at h ⊢
theorem xor_da : ∀ (m a b : Nat), a < 2 ^ m → b < 2 ^ m → da 2 m a b = a ^^^ b
 | 0, a, b, ha, hb => by
  obtain rfl : a = 0 := by simpa using ha
  obtain rfl : b = 0 := by simpa using hb
  rfl
 | m + 1, a, b, ha, hb => by
  rw [Nat.pow_succ] at ha hb
  unfold da
  rw [xor_da m (a / 2) (b / 2) (by omega) (by omega), ← Nat.xor_div_two, ← xor_mod2]
  omega
theorem bits_xor {a b : Nat} (ha : a < 256) (hb : b < 256) : Go.bits .xor .i64 (a : Int) (b : Int) = ((a ^^^ b : Nat) : Int) := by
 have h : a ^^^ b < 2 ^ 8 := Nat.xor_lt_two_pow (n := 8) ha hb
 have e : (BitVec.ofInt 64 (a : Int) ^^^ BitVec.ofInt 64 (b : Int)).toNat = a ^^^ b := by
  rw [BitVec.toNat_xor, BitVec.ofInt_natCast, BitVec.ofInt_natCast, BitVec.toNat_ofNat, BitVec.toNat_ofNat, Nat.mod_eq_of_lt (by omega), Nat.mod_eq_of_lt (by omega)]
 show IntKind.i64.wrap (((BitVec.ofInt 64 (a : Int) ^^^ BitVec.ofInt 64 (b : Int)).toNat : Nat) : Int) = _
 rw [e]
 have : IntKind.i64.wrap ((a ^^^ b : Nat) : Int) = wrap64 ((a ^^^ b : Nat) : Int) := Go.Proofs.YtdhlogncpgaajaaW.PrintLast.i64_w _
 rw [this, w64n (by omega)]
section
variable {p m : Nat} (h : Pm p m) {M : Int} {l E L : List Int} {q : Int}
include h
theorem padd_l0 : ∀ (d a b s w : Nat), a < p ^ d → b < p ^ d → w * p ^ d ≤ 256 → s ≤ w → 1 ≤ w → Ev (fun k => field_GF_Add.l0 k (a : Int) (b : Int) (s : Int) (w : Int) (p : Int) M l q E L) (((s + w * da p d a b : Nat) : Int), (p : Int), M, q) := by
 have h2 := h.p2
 have h256 := h.p256
 intro d
 induction d with
 | zero =>
  intro a b s w ha hb hw hs hw0
  rw [Nat.pow_zero] at ha hb
  refine Ev.step (fun k => field_GF_Add.l0.eq_2 ..) (ev_no (by omega) (ev_no (by omega) (ev_const ?_)))
  show _ = some (((s + w * 0 : Nat) : Int), _)
  rw [Nat.mul_zero, Nat.add_zero]
 | succ d ih =>
  intro a b s w ha hb hw hs hw0
  rw [Nat.pow_succ] at ha hb
  by_cases hz : a = 0 ∧ b = 0
  ·obtain ⟨rfl, rfl⟩ := hz
   refine Ev.step (fun k => field_GF_Add.l0.eq_2 ..) (ev_no (by omega) (ev_no (by omega) (ev_const ?_)))
   rw [da_zero, Nat.mul_zero, Nat.add_zero]
  ·have hwp : w * p ≤ 256 := by
    have : w * p * p ^ d = w * p ^ (d + 1) := by rw [Nat.pow_succ, Nat.mul_assoc, Nat.mul_comm p]
    have h1 : 1 ≤ p ^ d := Nat.pow_pos (by omega)
    have := Nat.le_mul_of_pos_right (w * p) h1
    omega
   have hw1 : w ≤ 256 := by have := Nat.le_mul_of_pos_right w (show 0 < p by omega); omega
   have ha8 : a / p < p ^ d := Nat.div_lt_of_lt_mul (by rw [Nat.mul_comm]; exact ha)
   have hb8 : b / p < p ^ d := Nat.div_lt_of_lt_mul (by rw [Nat.mul_comm]; exact hb)
   have hpd : w * p * p ^ d ≤ 256 := by rw [Nat.mul_assoc, Nat.mul_comm p, ← Nat.pow_succ]; exact hw
   have hpd2 : p ^ d ≤ 256 := by
    have := Nat.le_mul_of_pos_left (p ^ d) (show 0 < w * p from Nat.mul_pos hw0 (by omega))
    omega
   have ea := Nat.mod_lt a (show p > 0 by omega)
   have eb := Nat.mod_lt b (show p > 0 by omega)
   have ec := Nat.mod_lt (a % p + b % p) (show p > 0 by omega)
   have hcw : (a % p + b % p) % p * w + w ≤ w * p := by
    have : (a % p + b % p) % p * w + w = ((a % p + b % p) % p + 1) * w := by rw [Nat.add_mul, Nat.one_mul]
    rw [this, Nat.mul_comm]
    exact Nat.mul_le_mul_left w (by omega)
   have key : a ≤ 9223372036854775807 → b ≤ 9223372036854775807 → Ev (fun k => field_GF_Add.l0 k (wrap64 (Int.tdiv (a : Int) (p : Int))) (wrap64 (Int.tdiv (b : Int) (p : Int))) (wrap64 ((s : Int) + (wrap64 ((Int.tmod (wrap64 ((Int.tmod (a : Int) (p : Int)) + (Int.tmod (b : Int) (p : Int)))) (p : Int)) * (w : Int))))) (wrap64 ((w : Int) * (p : Int))) (p : Int) M l q E L) (((s + w * da p (d + 1) a b : Nat) : Int), (p : Int), M, q) := fun hA hB => by
    have hda := Nat.div_le_self a p
    have hdb := Nat.div_le_self b p
    rw [nat_tdiv, nat_tdiv, nat_tmod, nat_tmod, w64n (by omega), w64n (by omega), ← Int.natCast_add, w64n (by omega), nat_tmod, ← Int.natCast_mul, w64n (by omega), ← Int.natCast_add, w64n (by omega), ← Int.natCast_mul, w64n (by omega)]
    have hih := ih (a / p) (b / p) (s + (a % p + b % p) % p * w) (w * p) ha8 hb8 hpd (by omega) (Nat.mul_pos hw0 (by omega))
    have e : s + w * da p (d + 1) a b = s + (a % p + b % p) % p * w + w * p * da p d (a / p) (b / p) := by
     show s + w * ((a % p + b % p) % p + p * da p d (a / p) (b / p)) = _
     rw [Nat.mul_add, Nat.mul_comm w (_ % p), Nat.mul_assoc w p]
     omega
    rw [e]
    exact hih
   have hA : a ≤ 65536 := by have : p ^ d * p ≤ 256 * 256 := Nat.mul_le_mul hpd2 h256; omega
   have hB : b ≤ 65536 := by have : p ^ d * p ≤ 256 * 256 := Nat.mul_le_mul hpd2 h256; omega
   by_cases ha0 : a = 0
   ·exact Ev.step (fun k => field_GF_Add.l0.eq_2 ..) (ev_no (by omega) (ev_yes (by omega) (ev_no (by omega) (key (by omega) (by omega)))))
   ·exact Ev.step (fun k => field_GF_Add.l0.eq_2 ..) (ev_yes (by omega) (ev_no (by omega) (key (by omega) (by omega))))
theorem pneg_l0 : ∀ (d a s w : Nat), a < p ^ d → w * p ^ d ≤ 256 → s ≤ w → 1 ≤ w → Ev (fun k => field_GF_Neg.l0 k (a : Int) (s : Int) (w : Int) (p : Int) M l q E L) (((s + w * ds p (p - 1) d a : Nat) : Int), (p : Int), M, q) := by
 have h2 := h.p2
 have h256 := h.p256
 intro d
 induction d with
 | zero =>
  intro a s w ha hw hs hw0
  rw [Nat.pow_zero] at ha
  refine Ev.step (fun k => field_GF_Neg.l0.eq_2 ..) (ev_no (by omega) (ev_const ?_))
  show _ = some (((s + w * 0 : Nat) : Int), _)
  rw [Nat.mul_zero, Nat.add_zero]
 | succ d ih =>
  intro a s w ha hw hs hw0
  rw [Nat.pow_succ] at ha
  by_cases hz : a = 0
  ·subst hz
   refine Ev.step (fun k => field_GF_Neg.l0.eq_2 ..) (ev_no (by omega) (ev_const ?_))
   rw [ds_zero, Nat.mul_zero, Nat.add_zero]
  ·have hpd : w * p * p ^ d ≤ 256 := by rw [Nat.mul_assoc, Nat.mul_comm p, ← Nat.pow_succ]; exact hw
   have hwp : w * p ≤ 256 := by
    have h1 : 1 ≤ p ^ d := Nat.pow_pos (by omega)
    have := Nat.le_mul_of_pos_right (w * p) h1
    omega
   have hw1 : w ≤ 256 := by have := Nat.le_mul_of_pos_right w (show 0 < p by omega); omega
   have ha8 : a / p < p ^ d := Nat.div_lt_of_lt_mul (by rw [Nat.mul_comm]; exact ha)
   have hpd2 : p ^ d ≤ 256 := by
    have := Nat.le_mul_of_pos_left (p ^ d) (show 0 < w * p from Nat.mul_pos hw0 (by omega))
    omega
   have ea := Nat.mod_lt a (show p > 0 by omega)
   have ed : (p - 1) * (a % p) % p = (p - a % p) % p := by
    have e1 : (p - 1) * (a % p) + a % p = p * (a % p) := by rw [← Nat.succ_mul]; congr 1; omega
    rcases Nat.eq_zero_or_pos (a % p) with e | e
    ·rw [e]; simp
    ·have e2 : (p - 1) * (a % p) = (p - a % p) + p * (a % p - 1) := by
      have : p * (a % p) = p * (a % p - 1) + p := by rw [← Nat.mul_succ]; congr 1; omega
      omega
     rw [e2, Nat.add_mul_mod_self_left]
   have ec := Nat.mod_lt (p - a % p) (show p > 0 by omega)
   have hcw : (p - a % p) % p * w + w ≤ w * p := by
    have : (p - a % p) % p * w + w = ((p - a % p) % p + 1) * w := by rw [Nat.add_mul, Nat.one_mul]
    rw [this, Nat.mul_comm]
    exact Nat.mul_le_mul_left w (by omega)
   have hA : a ≤ 65536 := by have : p ^ d * p ≤ 256 * 256 := Nat.mul_le_mul hpd2 h256; omega
   have hda := Nat.div_le_self a p
   refine Ev.step (fun k => field_GF_Neg.l0.eq_2 ..) (ev_yes (by omega) (ev_no (by omega) ?_))
   rw [nat_tdiv, nat_tmod, w64n (by omega), show (p : Int) - ((a % p : Nat) : Int) = ((p - a % p : Nat) : Int) by omega, w64n (by omega), nat_tmod, ← Int.natCast_mul, w64n (by omega), ← Int.natCast_add, w64n (by omega), ← Int.natCast_mul, w64n (by omega)]
   have hih := ih (a / p) (s + (p - a % p) % p * w) (w * p) ha8 hpd (by omega) (Nat.mul_pos hw0 (by omega))
   have e : s + w * ds p (p - 1) (d + 1) a = s + (p - a % p) % p * w + w * p * ds p (p - 1) d (a / p) := by
    show s + w * ((p - 1) * (a % p) % p + p * ds p (p - 1) d (a / p)) = _
    rw [ed, Nat.mul_add, Nat.mul_comm w (_ % p), Nat.mul_assoc w p]
    omega
   rw [e]
   exact hih
theorem pAdd_ev {Q : Nat} (hQ : Q = p ^ m) (x y : Int) : Ev (fun k => field_GF_Add.f k (p : Int) M l (Q : Int) E L x y) (((da p m (el Q x) (el Q y) : Nat) : Int), (p : Int), M, (Q : Int)) := by
 have h2 := h.p2
 have hq := h.q
 have hx := el_lt (q := Q) (by rw [hQ]; exact Nat.pow_pos (by omega)) x
 have hy := el_lt (q := Q) (by rw [hQ]; exact Nat.pow_pos (by omega)) y
 unfold field_GF_Add.f
 refine ev_let (gin x) (ev_let (gin y) ?_)
 dsimp only
 by_cases hp2 : p = 2
 ·refine ev_yes (by omega) (ev_const ?_)
  rw [bits_xor (by omega) (by omega), hp2, xor_da m _ _ (by rw [← hp2, ← hQ]; exact hx) (by rw [← hp2, ← hQ]; exact hy)]
 ·refine ev_no (by omega) ?_
  have := padd_l0 h (M := M) (l := l) (E := E) (L := L) (q := (Q : Int)) m (el Q x) (el Q y) 0 1 (by omega) (by omega) (by omega) (by omega) (by omega)
  rw [Nat.zero_add, Nat.one_mul] at this
  exact this
theorem pNeg_ev {Q : Nat} (hQ : Q = p ^ m) (x : Int) : Ev (fun k => field_GF_Neg.f k (p : Int) M l (Q : Int) E L x) (((ds p (p - 1) m (el Q x) : Nat) : Int), (p : Int), M, (Q : Int)) := by
 have h2 := h.p2
 have hq := h.q
 have hx := el_lt (q := Q) (by rw [hQ]; exact Nat.pow_pos (by omega)) x
 unfold field_GF_Neg.f
 refine ev_let (gin x) ?_
 dsimp only
 have := pneg_l0 h (M := M) (l := l) (E := E) (L := L) (q := (Q : Int)) m (el Q x) 0 1 (by omega) (by omega) (by omega) (by omega)
 rw [Nat.zero_add, Nat.one_mul] at this
 exact this
theorem radd_l0 {mod : List Int} (a b : Nat) : ∀ (d t : Nat) (v : List Int), t + d = m → v.length = m → (∀ j, j < t → vl v j = dig p (da p m a b) j) → (∀ j, t ≤ j → j < m → vl v j = dig p a j) →
  Ev (fun k => codewrightref04_Add.l0 k v (dl p m b) (t : Int) (p : Int) (m : Int) mod) ((da p m a b : Nat) : Int) := by
 have h2 := h.p2
 have h256 := h.p256
 have h4 := h.m8
 intro d
 induction d with
 | zero =>
  intro t v ht hv h1 _
  obtain rfl : t = m := by omega
  refine Ev.step (fun k => codewrightref04_Add.l0.eq_2 ..) (ev_no (by omega) ?_)
  refine Ev.bind (value_ev (by omega) h.q h256 hv (by omega) (fun j hj => by rw [h1 j hj]; exact dig_lt (by omega) _ _)) (ev_const ?_)
  have : enc p (vl v) t = da p t a b := Eq.trans (enc_congr fun j hj => by rw [h1 j hj]) (enc_dig (by omega) _ _ (da_lt (by omega) _ _ _))
  rw [this]
 | succ d ih =>
  intro t v ht hv h1 h3
  have b1 := dig_lt (show 1 ≤ p by omega) a t
  have b2 := dig_lt (show 1 ≤ p by omega) b t
  have hlb : (dl p m b).length = m := dl_length ..
  refine Ev.step (fun k => codewrightref04_Add.l0.eq_2 ..) (ev_yes (by omega) (ev_yes (by omega) (ev_yes (by omega) (ev_no (by omega) ?_))))
  rw [rd_vl, rd_vl, h3 t (Nat.le_refl _) (by omega), vl_dl (by omega), Int.toNat_natCast, w64 (x := dig p a t + dig p b t) (by omega) (by omega), (tmod_nonneg (p := p) (by omega) (by omega)).1, show wrap64 ((t : Int) + 1) = ((t + 1 : Nat) : Int) by rw [w64 (by omega) (by omega)]; omega]
  refine ih (t + 1) _ (by omega) (by simpa using hv) (fun j hj => ?_) (fun j hj hj2 => ?_)
  ·rw [vl_set _ _ _ _ (by omega)]
   by_cases e : j = t
   ·rw [if_pos e, e, da_dig (by omega) _ _ _ _ (by omega)]
   ·rw [if_neg e]; exact h1 j (by omega)
  ·rw [vl_set _ _ _ _ (by omega), if_neg (by omega)]
   exact h3 j (by omega) hj2
theorem rAdd_ev {mod : List Int} (x y : Int) : Ev (fun k => codewrightref04_Add.f k (p : Int) (m : Int) mod x y) ((da p m (el (p ^ m) x) (el (p ^ m) y) : Nat) : Int) := by
 unfold codewrightref04_Add.f
 exact Ev.bind (Digits_ev h x) (Ev.bind (Digits_ev h y) (radd_l0 h _ _ m 0 _ (by omega) (dl_length ..) (fun j hj => absurd hj (by omega)) (fun j _ hj => vl_dl hj)))
theorem rneg_l0 {mod : List Int} (a : Nat) : ∀ (d t : Nat) (v : List Int), t + d = m → v.length = m → (∀ j, j < t → vl v j = dig p (ds p (p - 1) m a) j) → (∀ j, t ≤ j → j < m → vl v j = dig p a j) →
  Ev (fun k => codewrightref04_Neg.l0 k v (t : Int) (p : Int) (m : Int) mod) ((ds p (p - 1) m a : Nat) : Int) := by
 have h2 := h.p2
 have h256 := h.p256
 have h4 := h.m8
 intro d
 induction d with
 | zero =>
  intro t v ht hv h1 _
  obtain rfl : t = m := by omega
  refine Ev.step (fun k => codewrightref04_Neg.l0.eq_2 ..) (ev_no (by omega) ?_)
  refine Ev.bind (value_ev (by omega) h.q h256 hv (by omega) (fun j hj => by rw [h1 j hj]; exact dig_lt (by omega) _ _)) (ev_const ?_)
  have : enc p (vl v) t = ds p (p - 1) t a := Eq.trans (enc_congr fun j hj => by rw [h1 j hj]) (enc_dig (by omega) _ _ (ds_lt (by omega) _ _ _))
  rw [this]
 | succ d ih =>
  intro t v ht hv h1 h3
  have b1 := dig_lt (show 1 ≤ p by omega) a t
  refine Ev.step (fun k => codewrightref04_Neg.l0.eq_2 ..) (ev_yes (by omega) (ev_yes (by omega) (ev_no (by omega) ?_)))
  rw [rd_vl, h3 t (Nat.le_refl _) (by omega), Int.toNat_natCast, w64 (x := (p : Int) - dig p a t) (by omega) (by omega), (tmod_nonneg (p := p) (by omega) (by omega)).1, show wrap64 ((t : Int) + 1) = ((t + 1 : Nat) : Int) by rw [w64 (by omega) (by omega)]; omega]
  refine ih (t + 1) _ (by omega) (by simpa using hv) (fun j hj => ?_) (fun j hj hj2 => ?_)
  ·rw [vl_set _ _ _ _ (by omega)]
   by_cases e : j = t
   ·rw [if_pos e, e, ds_dig (by omega) _ _ _ _ (by omega)]
    have e1 : ((p - 1 : Nat) : Int) * dig p a t = ((p : Int) - dig p a t) + (p : Int) * (dig p a t - 1) := by
     rw [Int.mul_sub, Int.mul_one, show ((p - 1 : Nat) : Int) = (p : Int) - 1 by omega, Int.sub_mul, Int.one_mul]
     omega
    rw [e1, Int.add_mul_emod_self_left]
   ·rw [if_neg e]; exact h1 j (by omega)
  ·rw [vl_set _ _ _ _ (by omega), if_neg (by omega)]
   exact h3 j (by omega) hj2
theorem rNeg_ev {mod : List Int} (x : Int) : Ev (fun k => codewrightref04_Neg.f k (p : Int) (m : Int) mod x) ((ds p (p - 1) m (el (p ^ m) x) : Nat) : Int) := by
 unfold codewrightref04_Neg.f
 exact Ev.bind (Digits_ev h x) (rneg_l0 h _ m 0 _ (by omega) (dl_length ..) (fun j hj => absurd hj (by omega)) (fun j _ hj => vl_dl hj))
end
end Go.Proofs.Ytdhlogncpgaajaa.Ord
namespace Go.Proofs.Ytdhlogncpgaajaa.Ord
set_option linter.unusedVariables false
open Go.RowKit Go.Proofs.YtdhlogncpgaajaaW.PrintWords
structure Agree (q : Nat) (o o' : Op4) : Prop where
 add : o.add = o'.add
 neg : o.neg = o'.neg
 mul : o.mul = o'.mul
 fac : ∀ x : Int, 0 < x → x < (q : Int) → o.fac x = o'.fac x
 cadd : ∀ x y, 0 ≤ o.add x y ∧ o.add x y < (q : Int)
 cmul : ∀ x y, 0 ≤ o.mul x y ∧ o.mul x y < (q : Int)
section
variable {p m : Nat} (h : Pm p m) {mod : List Int} (hmod : m ≠ 1 → Dg p mod ∧ mod.length = m)
include h hmod
omit h hmod in
theorem pInv_some {P M : Int} {l : List Int} {q g : Nat} {mu : Nat → Nat → Nat} {E L : List Int} (T : Tab q mu g E L) (x : Int) :
  field_GF_Inv.f P M l (q : Int) E L x = some ((if el q x = 0 then 0 else vl E ((q - 1 - (vl L (el q x)).toNat) % (q - 1))), (if el q x = 0 then 7 else 0), P, M, (q : Int)) := by
 have hq := T.mon.two
 have h256 := T.q256
 have hE := T.lenE
 have hL := T.lenL
 have hx := el_lt (q := q) (by omega) x
 unfold field_GF_Inv.f
 rw [gin]
 simp only [Option.bind_some]
 obtain ⟨a, ha⟩ : ∃ a, el q x = a := ⟨_, rfl⟩
 rw [ha] at hx ⊢
 by_cases h0 : a = 0
 ·subst h0
  rw [if_pos (show ((0 : Nat) : Int) = 0 from rfl), if_pos rfl, if_pos rfl]
 obtain ⟨i, hi, rfl⟩ := T.gen.all T.mon a hx h0
 have hk := Nat.mod_lt (q - 1 - i) (show q - 1 > 0 by omega)
 have hw : wrap64 ((q : Int) - 1) = ((q - 1 : Nat) : Int) := by rw [w64 (by omega) (by omega)]; omega
 rw [if_neg (by omega), if_pos (by omega), if_pos (by omega), rd_vl, T.log i hi, hw, if_neg (by omega), show ((q - 1 : Nat) : Int) - (i : Int) = ((q - 1 - i : Nat) : Int) by omega, w64n (by omega), nat_tmod, if_pos (by omega), if_pos (by omega), rd_vl, if_neg h0, if_neg h0, Int.toNat_natCast]
theorem rInv_total (x : Int) : ∃ r, Ev (fun k => codewrightref04_Inv.f k (p : Int) (m : Int) mod x) r := by
 have hq := h.q
 have key : ∀ (d y : Nat), y + d = p ^ m → ∃ r, Ev (fun k => codewrightref04_Inv.l0 k x (y : Int) (p : Int) (m : Int) mod) r := by
  intro d
  induction d with
  | zero =>
   intro y hy
   exact ⟨0, Ev.step (fun k => codewrightref04_Inv.l0.eq_2 ..) (Ev.bind (order_ev h) (ev_no (by omega) (Ev.now _)))⟩
  | succ d ih =>
   intro y hy
   by_cases h1 : cm (res p (m - 1) (loc p m mod)) p (el (p ^ m) x) (el (p ^ m) (y : Int)) = 1
   ·exact ⟨y, Ev.step (fun k => codewrightref04_Inv.l0.eq_2 ..) (Ev.bind (order_ev h) (ev_yes (by omega) (Ev.bind (Mul_ev h hmod x (y : Int)) (ev_yes (by rw [h1]; rfl) (Ev.now _)))))⟩
   ·obtain ⟨r, hr⟩ := ih (y + 1) (by omega)
    refine ⟨r, Ev.step (fun k => codewrightref04_Inv.l0.eq_2 ..) (Ev.bind (order_ev h) (ev_yes (by omega) (Ev.bind (Mul_ev h hmod x (y : Int)) (ev_no (by omega) ?_))))⟩
    rw [w64 (by omega) (by omega)]
    exact hr
 unfold codewrightref04_Inv.f
 exact key (p ^ m - 1) 1 (by have : 1 ≤ p ^ m := Nat.pow_pos (by have := h.p2; omega); omega)
noncomputable def arOf {q g : Nat} {E L : List Int} (hq : q = p ^ m) (T : Tab q (cm (res p (m - 1) (loc p m mod)) p) g E L) : Ar (p : Int) (m : Int) mod q E L where
 add := fun x y => ((da p m (el q x) (el q y) : Nat) : Int)
 neg := fun x => ((ds p (p - 1) m (el q x) : Nat) : Int)
 mul := fun x y => ((cm (res p (m - 1) (loc p m mod)) p (el q x) (el q y) : Nat) : Int)
 inv := fun x => if el q x = 0 then 0 else vl E ((q - 1 - (vl L (el q x)).toNat) % (q - 1))
 ier := fun x => if el q x = 0 then 7 else 0
 hadd := fun x y => pAdd_ev h hq x y
 hneg := fun x => pNeg_ev h hq x
 hmul := fun x y => GF_Mul_some T x y
 hinv := fun x => pInv_some T x
noncomputable def rarOf : RAr (p : Int) (m : Int) mod where
 add := fun x y => ((da p m (el (p ^ m) x) (el (p ^ m) y) : Nat) : Int)
 neg := fun x => ((ds p (p - 1) m (el (p ^ m) x) : Nat) : Int)
 mul := fun x y => ((cm (res p (m - 1) (loc p m mod)) p (el (p ^ m) x) (el (p ^ m) y) : Nat) : Int)
 inv := fun x => (rInv_total h hmod x).choose
 hadd := fun x y => rAdd_ev h x y
 hneg := fun x => rNeg_ev h x
 hmul := fun x y => Mul_ev h hmod x y
 hinv := fun x => (rInv_total h hmod x).choose_spec
theorem agree_of {g : Nat} {E L : List Int} (T : Tab (p ^ m) (cm (res p (m - 1) (loc p m mod)) p) g E L) : Agree (p ^ m) (arOf h rfl T).op (rarOf h hmod).op := by
 have h2 := h.p2
 have hq2 := T.mon.two
 refine ⟨rfl, rfl, rfl, fun x h0 h1 => ?_, fun x y => ?_, fun x y => ?_⟩
 ·obtain ⟨a, rfl⟩ : ∃ a : Nat, x = a := ⟨x.toNat, by omega⟩
  have ha : a < p ^ m := by omega
  have hel : el (p ^ m) (a : Int) = a := el_nat ha
  obtain ⟨i, hi, hpi⟩ := T.gen.all T.mon a ha (by omega)
  have hk := Nat.mod_lt (p ^ m - 1 - i) (show p ^ m - 1 > 0 by omega)
  obtain ⟨z, hz⟩ : ∃ z, z = pw (cm (res p (m - 1) (loc p m mod)) p) g ((p ^ m - 1 - i) % (p ^ m - 1)) := ⟨_, rfl⟩
  have hzl : z < p ^ m := by rw [hz]; exact T.mon.pw_lt T.gen.lt _
  have haz : cm (res p (m - 1) (loc p m mod)) p a z = 1 := by rw [hz, ← hpi]; exact T.gen.inv T.mon i hi
  have e1 : (rarOf h hmod).inv (a : Int) = (z : Int) := ev_uniq ((rarOf h hmod).hinv (a : Int)) (Inv_ev h hmod ha hzl haz)
  have e2 : (arOf h rfl T).inv (a : Int) = (z : Int) := by
   show (if el (p ^ m) (a : Int) = 0 then 0 else vl E ((p ^ m - 1 - (vl L (el (p ^ m) (a : Int))).toNat) % (p ^ m - 1))) = _
   rw [hel, if_neg (by omega), hz, ← hpi, T.log i hi, Int.toNat_natCast, T.exp _ hk]
  have e3 : (arOf h rfl T).ier (a : Int) = 0 := by
   show (if el (p ^ m) (a : Int) = 0 then (7 : Int) else 0) = 0
   rw [hel, if_neg (by omega)]
  show (if (arOf h rfl T).ier (a : Int) = 0 ∧ (arOf h rfl T).inv (a : Int) ≠ 1 then some ((arOf h rfl T).inv (a : Int)) else none) = (if (a : Int) = 1 then none else some ((rarOf h hmod).inv (a : Int)))
  rw [e1, e2, e3]
  by_cases ea : a = 1
  ·have ez : z = 1 := by
    subst ea
    have := T.mon.comm 1 z (by omega) hzl
    rw [T.mon.one z hzl] at this
    omega
   rw [if_neg (by rw [ez]; simp), if_pos (by omega)]
  ·have ez : z ≠ 1 := fun e => by
    rw [e, T.mon.one a ha] at haz
    exact ea haz
   rw [if_pos ⟨rfl, by omega⟩, if_neg (by omega)]
 ·have := da_lt (p := p) (by omega) m (el (p ^ m) x) (el (p ^ m) y)
  show 0 ≤ ((da p m (el (p ^ m) x) (el (p ^ m) y) : Nat) : Int) ∧ ((da p m (el (p ^ m) x) (el (p ^ m) y) : Nat) : Int) < ((p ^ m : Nat) : Int)
  omega
 ·have := T.mon.lt _ _ (el_lt (by omega) x) (el_lt (q := p ^ m) (by omega) y)
  show 0 ≤ ((cm (res p (m - 1) (loc p m mod)) p (el (p ^ m) x) (el (p ^ m) y) : Nat) : Int) ∧ ((cm (res p (m - 1) (loc p m mod)) p (el (p ^ m) x) (el (p ^ m) y) : Nat) : Int) < ((p ^ m : Nat) : Int)
  omega
end
def InR (q : Nat) (l : List (List Int)) : Prop := ∀ r ∈ l, ∀ x ∈ r, 0 ≤ x ∧ x < (q : Int)
theorem rd_in {q : Nat} (hq : 0 < q) {r : List Int} (h : ∀ x ∈ r, 0 ≤ x ∧ x < (q : Int)) (c : Int) : 0 ≤ rd r c ∧ rd r c < (q : Int) := by
 unfold rd
 rw [List.getD_eq_getElem?_getD]
 rcases Nat.lt_or_ge c.toNat r.length with h1 | h1
 ·rw [List.getElem?_eq_getElem h1]
  exact h _ (List.getElem_mem h1)
 ·rw [List.getElem?_eq_none h1]
  simp only [Option.getD_none]
  omega
theorem InR.row {q : Nat} {l : List (List Int)} (h : InR q l) (i : Int) : ∀ x ∈ rd_L2 l i, 0 ≤ x ∧ x < (q : Int) := by
 unfold rd_L2
 rw [List.getD_eq_getElem?_getD]
 rcases Nat.lt_or_ge i.toNat l.length with h1 | h1
 ·rw [List.getElem?_eq_getElem h1]
  exact h _ (List.getElem_mem h1)
 ·rw [List.getElem?_eq_none h1]
  intro x hx
  simp at hx
theorem InR.set {q : Nat} {l : List (List Int)} (h : InR q l) {r : List Int} (hr : ∀ x ∈ r, 0 ≤ x ∧ x < (q : Int)) (i : Nat) : InR q (l.set i r) := fun x hx => by
 rcases List.mem_or_eq_of_mem_set hx with h1 | h1
 ·exact h x h1
 ·rw [h1]; exact hr
theorem addTo_in {q : Nat} {o o' : Op4} (A : Agree q o o') (a : Int) : ∀ v u : List Int, (∀ x ∈ v, 0 ≤ x ∧ x < (q : Int)) → ∀ x ∈ addTo o.add o.mul a v u, 0 ≤ x ∧ x < (q : Int)
 | [], _, h => by simp [addTo]
 | x :: v, [], h => by simpa [addTo] using h
 | x :: v, y :: u, h => by
  intro z hz
  simp only [addTo, List.mem_cons] at hz
  rcases hz with hz | hz
  ·rw [hz]
   split
   ·exact h x (List.mem_cons_self ..)
   ·exact A.cadd _ _
  ·exact addTo_in A a v u (fun x hx => h x (List.mem_cons_of_mem _ hx)) z hz
theorem pivF_spec (c : Int) (l : List (List Int)) : ∀ d k, pivF c l d k = k + d ∨ rd (rd_L2 l ((pivF c l d k : Nat) : Int)) c ≠ 0
 | 0, k => .inl rfl
 | d + 1, k => by
  unfold pivF
  split
  ·rcases pivF_spec c l d (k + 1) with h | h
   ·exact .inl (by omega)
   ·exact .inr h
  ·rename_i h
   exact .inr h
section
variable {q : Nat} {o o' : Op4} (A : Agree q o o')
include A
theorem clrTo_eq (at_ : Nat) (c : Int) (l : List (List Int)) : ∀ i, clrTo o at_ c l i = clrTo o' at_ c l i
 | 0 => rfl
 | i + 1 => by
  unfold clrTo
  rw [clrTo_eq at_ c l i, A.add, A.mul, A.neg]
theorem clrTo_in (at_ : Nat) (c : Int) {l : List (List Int)} (h : InR q l) : ∀ i, InR q (clrTo o at_ c l i)
 | 0 => h
 | i + 1 => by
  have ih := clrTo_in at_ c h i
  unfold clrTo
  split
  ·exact ih.set (addTo_in A _ _ _ (ih.row _)) i
  ·exact ih
theorem elim_eq (hq : 0 < q) : ∀ (d c : Nat) (l : List (List Int)) (p : List Int), InR q l → elimG o d c l p = elimG o' d c l p ∧ InR q (elimG o d c l p).1
 | 0, c, l, p, h => ⟨rfl, h⟩
 | d + 1, c, l, p, h => by
  by_cases hp : p.length < l.length
  ·have hb := pivF_bounds (c : Int) l (l.length - p.length) p.length
   by_cases hk : pivF (c : Int) l (l.length - p.length) p.length = l.length
   ·have h1 : stepC o (c : Int) p.length l = none := by unfold stepC; rw [if_pos hk]
    have h2 : stepC o' (c : Int) p.length l = none := by unfold stepC; rw [if_pos hk]
    rw [elimG_none o d c l p hp h1, elimG_none o' d c l p hp h2]
    exact elim_eq hq d (c + 1) l p h
   ·have hsp := (pivF_spec (c : Int) l (l.length - p.length) p.length).resolve_left (by omega)
    obtain ⟨k, hkk⟩ : ∃ k, k = pivF (c : Int) l (l.length - p.length) p.length := ⟨_, rfl⟩
    rw [← hkk] at hsp hb hk
    have hsw : InR q (swapL l p.length k []) := fun r hr => h r (mem_swapL hp (by omega) hr)
    have hat : rd_L2 (swapL l p.length k []) (p.length : Int) = rd_L2 l (k : Int) := swapL_at l hp (by omega)
    have hx := rd_in hq (h.row (k : Int)) (c : Int)
    have hfac : o.fac (rd (rd_L2 (swapL l p.length k []) (p.length : Int)) (c : Int)) = o'.fac (rd (rd_L2 (swapL l p.length k []) (p.length : Int)) (c : Int)) := by
     rw [hat]; exact A.fac _ (by omega) hx.2
    have hf : facL o p.length (c : Int) (swapL l p.length k []) = facL o' p.length (c : Int) (swapL l p.length k []) := by
     unfold facL
     rw [hfac, A.mul]
    have hfi : InR q (facL o p.length (c : Int) (swapL l p.length k [])) := by
     unfold facL
     split
     ·refine hsw.set (fun x hx => ?_) _
      obtain ⟨y, _, rfl⟩ := List.mem_map.1 hx
      exact A.cmul _ _
     ·exact hsw
    have h1 : stepC o (c : Int) p.length l = some (clrTo o p.length (c : Int) (facL o p.length (c : Int) (swapL l p.length k [])) l.length) := by unfold stepC; rw [← hkk, if_neg hk]
    have h2 : stepC o' (c : Int) p.length l = some (clrTo o p.length (c : Int) (facL o p.length (c : Int) (swapL l p.length k [])) l.length) := by unfold stepC; rw [← hkk, if_neg hk, clrTo_eq A, hf]
    rw [elimG_some o d c l _ p hp h1, elimG_some o' d c l _ p hp h2]
    exact elim_eq hq d (c + 1) _ _ (clrTo_in A _ _ hfi _)
  ·rw [elimG_stop o (d + 1) c l p hp, elimG_stop o' (d + 1) c l p hp]
   exact ⟨rfl, h⟩
end
end Go.Proofs.Ytdhlogncpgaajaa.Ord
namespace Go.Proofs.Ytdhlogncpgaajaa.Ord
set_option linter.unusedVariables false
open Go.RowKit Go.Proofs.YtdhlogncpgaajaaW.PrintWords
theorem fp_pw {p n lo : Nat} (hp : 2 ≤ p) {x : Nat} (hx : x < p ^ (n + 1)) : ∀ k e, e < 2 ^ k → fp p n lo k x e = pw (cm (res p n lo) p) x e := by
 have M : Mon (p ^ (n + 1)) (cm (res p n lo) p) := cm_mon (res p n lo) hp
 intro k
 induction k with
 | zero =>
  intro e he
  obtain rfl : e = 0 := by simpa using he
  rfl
 | succ k ih =>
  intro e he
  rw [Nat.pow_succ] at he
  unfold fp
  by_cases h0 : e = 0
  ·rw [if_pos h0, h0]; rfl
  ·rw [if_neg h0, ih (e / 2) (by omega)]
   have hl := M.pw_lt hx (e / 2)
   have hsq : mx p n lo (pw (cm (res p n lo) p) x (e / 2)) (n + 1) (pw (cm (res p n lo) p) x (e / 2)) = pw (cm (res p n lo) p) x (e / 2 + e / 2) := by
    rw [mx_eq hp hl, M.pw_add hx]
   by_cases h1 : e % 2 = 1
   ·rw [if_pos h1, hsq, mx_eq hp (M.pw_lt hx _)]
    have e1 : e = (e / 2 + e / 2) + 1 := by omega
    conv => rhs; rw [e1]
    rfl
   ·rw [if_neg h1, hsq]
    congr 1
    omega
theorem okd_ne {p n lo g N : Nat} : ∀ D, okd p n lo g N D = true → ∀ d, 1 ≤ d → d ≤ D → d ≠ N → N % d = 0 → fp p n lo 8 g d ≠ 1
 | 0, _, d, h1, h2, _, _ => by omega
 | D + 1, h, d, h1, h2, h3, h4 => by
  simp only [okd, Bool.and_eq_true, Bool.or_eq_true, bne_iff_ne, beq_iff_eq] at h
  rcases Nat.lt_or_ge d (D + 1) with h5 | h5
  ·exact okd_ne D h.2 d h1 (by omega) h3 h4
  ·obtain rfl : d = D + 1 := by omega
   rcases h.1 with (h6 | h6) | h6
   ·exact absurd h4 h6
   ·exact absurd h6 h3
   ·exact h6
theorem okg_gen {p n lo g : Nat} (hp : 2 ≤ p) (hq : p ^ (n + 1) ≤ 256) (h : okg p n lo g = true) : IsGen (p ^ (n + 1)) (cm (res p n lo) p) g := by
 have M : Mon (p ^ (n + 1)) (cm (res p n lo) p) := cm_mon (res p n lo) hp
 simp only [okg, Bool.and_eq_true, decide_eq_true_eq, beq_iff_eq] at h
 obtain ⟨⟨h1, h2⟩, h3⟩ := h
 rw [fp_pw hp h1 8 _ (by omega)] at h2
 refine isGen_of M h1 h2 (fun d hd hd2 hd3 => ?_)
 have := okd_ne _ h3 d hd (by omega) (by omega) hd3
 rwa [fp_pw hp h1 8 _ (by omega)] at this
theorem tok_at {p n : Nat} : ∀ (t : List Nat) (v : Nat), tok p n t v = true → ∀ j, j < t.length → t.getD j 0 ≠ 0 → okg p n (v + j) (t.getD j 0) = true
 | [], v, _, j, hj, _ => by simp at hj
 | g :: l, v, h, 0, hj, h0 => by
  simp only [tok, Bool.and_eq_true, Bool.or_eq_true, beq_iff_eq] at h
  simp at h0 ⊢
  exact h.1.resolve_left h0
 | g :: l, v, h, j + 1, hj, h0 => by
  simp only [tok, Bool.and_eq_true, Bool.or_eq_true, beq_iff_eq] at h
  have := tok_at l (v + 1) h.2 j (by simpa using hj) (by simpa using h0)
  rw [show v + (j + 1) = v + 1 + j by omega]
  simpa using this
theorem irk_at {p m : Nat} : ∀ (t : List Nat) (z : List (Nat × Nat)) (v : Nat), irk p m t z v = true → ∀ j, j < t.length →
  (t.getD j 0 = 0 → (∃ a b, a ≠ 0 ∧ b ≠ 0 ∧ a < p ^ m ∧ b < p ^ m ∧ mx p (m - 1) (v + j) a m b = 0) ∧ codewrightref04_irreducible.f 200 (dl p m (v + j)) (p : Int) = some false) ∧
  (t.getD j 0 ≠ 0 → codewrightref04_irreducible.f 200 (dl p m (v + j)) (p : Int) = some true)
 | [], [], v, h => by
  exact fun j hj => by simp at hj
 | [], _ :: _, v, h => by simp [irk] at h
 | _ :: _, [], v, h => by simp [irk] at h
 | g :: l, z :: zs, v, h => by
  simp only [irk, Bool.and_eq_true] at h
  obtain ⟨h1, h2⟩ := h
  have h4 := irk_at l zs (v + 1) h2
  intro j hj
  cases j with
  | zero =>
   by_cases hg : g = 0
   ·rw [if_pos hg] at h1
    simp only [Bool.and_eq_true, bne_iff_ne, decide_eq_true_eq, beq_iff_eq] at h1
    obtain ⟨⟨⟨⟨⟨a1, a2⟩, a3⟩, a4⟩, a5⟩, a6⟩ := h1
    exact ⟨fun _ => ⟨⟨z.1, z.2, a1, a2, a3, a4, a5⟩, a6⟩, fun hc => absurd hg (by simpa using hc)⟩
   ·rw [if_neg hg] at h1
    simp only [beq_iff_eq] at h1
    exact ⟨fun hc => absurd (by simpa using hc) hg, fun _ => h1⟩
  | succ j =>
   have := h4 j (by simpa using hj)
   rw [show v + (j + 1) = v + 1 + j by omega]
   simpa using this
theorem porder_l0 {p m : Nat} (h2 : 2 ≤ p) (h256 : p ≤ 256) (h8 : m ≤ 8) : ∀ (d i : Nat), i + d = m → p ^ i ≤ 256 → Ev (fun k => field_order.l0 k (p : Int) ((p ^ i : Nat) : Int) (m : Int) (i : Int)) (((if p ^ m ≤ 256 then p ^ m else 0) : Nat) : Int) := by
 intro d
 induction d with
 | zero =>
  intro i hi hp
  obtain rfl : i = m := by omega
  rw [if_pos hp]
  exact Ev.step (fun k => field_order.l0.eq_2 ..) (ev_no (by omega) (Ev.now _))
 | succ d ih =>
  intro i hi hp
  have hpi : p ^ (i + 1) = p ^ i * p := Nat.pow_succ ..
  have hle : p ^ i * p ≤ 256 * 256 := Nat.mul_le_mul hp h256
  have hle2 : p ^ (i + 1) ≤ p ^ m := Nat.pow_le_pow_right (by omega) (by omega)
  refine Ev.step (fun k => field_order.l0.eq_2 ..) (ev_yes (by omega) ?_)
  rw [← Int.natCast_mul, ← hpi, w64n (by omega), w64 (by omega) (by omega)]
  by_cases hc : p ^ (i + 1) ≤ 256
  ·exact ev_no (by omega) (ih (i + 1) (by omega) hc)
  ·rw [if_neg (by omega)]
   exact ev_yes (by omega) (Ev.now _)
theorem rorder_l0 {p m : Nat} (h2 : 2 ≤ p) (h256 : p ≤ 256) (h8 : m ≤ 8) {l : List Int} : ∀ (d i : Nat), i + d = m → p ^ i ≤ 256 → Ev (fun k => codewrightref04_Order.l0 k ((p ^ i : Nat) : Int) (i : Int) (p : Int) (m : Int) l) (((if p ^ m ≤ 256 then p ^ m else 0) : Nat) : Int) := by
 intro d
 induction d with
 | zero =>
  intro i hi hp
  obtain rfl : i = m := by omega
  rw [if_pos hp]
  exact Ev.step (fun k => codewrightref04_Order.l0.eq_2 ..) (ev_no (by omega) (Ev.now _))
 | succ d ih =>
  intro i hi hp
  have hpi : p ^ (i + 1) = p ^ i * p := Nat.pow_succ ..
  have hle : p ^ i * p ≤ 256 * 256 := Nat.mul_le_mul hp h256
  have hle2 : p ^ (i + 1) ≤ p ^ m := Nat.pow_le_pow_right (by omega) (by omega)
  have h256d : 256 / p ≤ 256 := Nat.div_le_self ..
  have hdiv : p ^ i ≤ 256 / p ↔ p ^ i * p ≤ 256 := Nat.le_div_iff_mul_le (by omega)
  refine Ev.step (fun k => codewrightref04_Order.l0.eq_2 ..) (ev_yes (by omega) (ev_no (by omega) ?_))
  have e : wrap64 (Int.tdiv (256 : Int) (p : Int)) = ((256 / p : Nat) : Int) := by
   have e1 : Int.tdiv (256 : Int) (p : Int) = ((256 / p : Nat) : Int) := rfl
   rw [e1]; exact w64n (by omega)
  rw [e, ← Int.natCast_mul, ← hpi, w64n (by omega), w64 (by omega) (by omega)]
  by_cases hc : p ^ (i + 1) ≤ 256
  ·exact ev_no (by have := Int.ofNat_le.2 (hdiv.2 (by omega)); omega) (ih (i + 1) (by omega) hc)
  ·rw [if_neg (by omega)]
   have hn : ¬ p ^ i ≤ 256 / p := fun h => by have := hdiv.1 h; omega
   exact ev_yes (by omega) (Ev.now _)
theorem order_cases (P M : Int) (l : List Int) : (∃ p m : Nat, P = p ∧ M = m ∧ Pm p m ∧ Ev (fun k => field_order.f k P M) ((p ^ m : Nat) : Int) ∧ Ev (fun k => codewrightref04_Order.f k P M l) ((p ^ m : Nat) : Int)) ∨ (Ev (fun k => field_order.f k P M) 0 ∧ Ev (fun k => codewrightref04_Order.f k P M l) 0) := by
 have z1 : Ev (fun k => field_order.j0 k P M true) 0 := Ev.step (fun k => field_order.j0.eq_2 ..) (ev_yes rfl (Ev.now _))
 have z2 : Ev (fun k => codewrightref04_Order.j0 k true P M l) 0 := Ev.step (fun k => codewrightref04_Order.j0.eq_2 ..) (ev_yes rfl (Ev.now _))
 by_cases c1 : P < 2
 ·exact .inr ⟨by unfold field_order.f; exact ev_yes c1 z1, by unfold codewrightref04_Order.f; exact ev_yes c1 z2⟩
 by_cases c2 : M < 1
 ·refine .inr ⟨?_, by unfold codewrightref04_Order.f; exact ev_no c1 (ev_yes c2 z2)⟩
  unfold field_order.f
  refine ev_no c1 ?_
  by_cases c3 : P > 256
  ·exact ev_yes c3 z1
  ·exact ev_no c3 (ev_yes c2 z1)
 by_cases c3 : M > 8
 ·refine .inr ⟨?_, ?_⟩
  ·unfold field_order.f
   refine ev_no c1 ?_
   by_cases c4 : P > 256
   ·exact ev_yes c4 z1
   ·refine ev_no c4 (ev_no c2 ?_)
    rw [decide_eq_true c3]; exact z1
  ·unfold codewrightref04_Order.f
   refine ev_no c1 (ev_no c2 ?_)
   rw [decide_eq_true c3]; exact z2
 by_cases c4 : P > 256
 ·refine .inr ⟨by unfold field_order.f; exact ev_no c1 (ev_yes c4 z1), ?_⟩
  unfold codewrightref04_Order.f
  refine ev_no c1 (ev_no c2 ?_)
  rw [decide_eq_false c3]
  refine Ev.step (fun k => codewrightref04_Order.j0.eq_2 ..) (ev_no (by simp) (Ev.step (fun k => codewrightref04_Order.l0.eq_2 ..) (ev_yes (by omega) (ev_no (by omega) (ev_yes ?_ (Ev.now _))))))
  rw [Int.tdiv_eq_zero_of_lt (by omega) (by omega), w64 (by omega) (by omega)]
  omega
 obtain ⟨p, rfl⟩ : ∃ p : Nat, P = p := ⟨P.toNat, by omega⟩
 obtain ⟨m, rfl⟩ : ∃ m : Nat, M = m := ⟨M.toNat, by omega⟩
 have hp := porder_l0 (p := p) (m := m) (by omega) (by omega) (by omega) m 0 (by omega) (by rw [Nat.pow_zero]; omega)
 have hr := rorder_l0 (p := p) (m := m) (l := l) (by omega) (by omega) (by omega) m 0 (by omega) (by rw [Nat.pow_zero]; omega)
 have hp' : Ev (fun k => field_order.f k (p : Int) (m : Int)) (((if p ^ m ≤ 256 then p ^ m else 0) : Nat) : Int) := by
  unfold field_order.f
  refine ev_no c1 (ev_no c4 (ev_no c2 ?_))
  rw [decide_eq_false c3]
  exact Ev.step (fun k => field_order.j0.eq_2 ..) (ev_no (by simp) hp)
 have hr' : Ev (fun k => codewrightref04_Order.f k (p : Int) (m : Int) l) (((if p ^ m ≤ 256 then p ^ m else 0) : Nat) : Int) := by
  unfold codewrightref04_Order.f
  refine ev_no c1 (ev_no c2 ?_)
  rw [decide_eq_false c3]
  exact Ev.step (fun k => codewrightref04_Order.j0.eq_2 ..) (ev_no (by simp) hr)
 by_cases hq : p ^ m ≤ 256
 ·rw [if_pos hq] at hp' hr'
  exact .inl ⟨p, m, rfl, rfl, ⟨by omega, by omega, by omega, hq⟩, hp', hr'⟩
 ·rw [if_neg hq] at hp' hr'
  exact .inr ⟨hp', hr'⟩
theorem prime_cases {p : Nat} (h2 : 2 ≤ p) (h256 : p ≤ 256) : Ev (fun k => field_isPrime.f k (p : Int)) (tab1.any fun x => x.1 == p) ∧ Ev (fun k => codewrightref04_prime.f k (p : Int)) (tab1.any fun x => x.1 == p) := by
 have h := List.all_eq_true.1 pk_all p (List.mem_range.2 (by omega))
 rw [decide_eq_false (by omega), Bool.false_or] at h
 simp only [pk, Bool.and_eq_true, beq_iff_eq] at h
 exact ⟨Ev.of (fun k => field_isPrime.mono _ k) h.1, Ev.of (fun k => codewrightref04_prime.mono _ k) h.2⟩
theorem shape_l0 {p : Nat} {M : Int} {l l' : List Int} (hl : l.length ≤ 1000) : ∀ (d i : Nat), i + d = l.length → Ev (fun k => field_shape.l0 k l (l.length : Int) (i : Int) (p : Int) M l') (inq p (l.drop i)) := by
 intro d
 induction d with
 | zero =>
  intro i hi
  refine Ev.step (fun k => field_shape.l0.eq_2 ..) (ev_no (by omega) (ev_const ?_))
  rw [List.drop_of_length_le (by omega)]; rfl
 | succ d ih =>
  intro i hi
  have hd : l.drop i = vl l i :: l.drop (i + 1) := by rw [List.drop_eq_getElem_cons (by omega)]; simp [vl, List.getD_eq_getElem?_getD, show i < l.length by omega]
  refine Ev.step (fun k => field_shape.l0.eq_2 ..) (ev_yes (by omega) (ev_yes (by omega) (ev_yes (by omega) ?_)))
  rw [rd_vl]
  unfold inq
  rw [hd, List.all_cons]
  by_cases h1 : vl l i < 0
  ·refine ev_yes h1 (ev_const ?_)
   rw [decide_eq_false (by omega), Bool.false_and]
  ·refine ev_no h1 ?_
   by_cases h2 : vl l i ≥ (p : Int)
   ·refine ev_yes h2 (ev_const ?_)
    rw [decide_eq_false (by omega), Bool.false_and]
   ·refine ev_no h2 ?_
    rw [decide_eq_true (by omega), Bool.true_and, show wrap64 ((i : Int) + 1) = ((i + 1 : Nat) : Int) by rw [w64 (by omega) (by omega)]; omega]
    exact ih (i + 1) (by omega)
theorem rcheck_l0 {p : Nat} {l : List Int} {b : Bool} (hl : l.length ≤ 1000) (hir : inq p l = true → Ev (fun k => codewrightref04_irreducible.f k l (p : Int)) b) : ∀ (d i : Nat), i + d = l.length → inq p (l.take i) = true → Ev (fun k => codewrightref04_Check.l0 k (i : Int) (p : Int) (l.length : Int) l) (if inq p l && b then 0 else 1) := by
 intro d
 induction d with
 | zero =>
  intro i hi hin
  rw [List.take_of_length_le (by omega)] at hin
  refine Ev.step (fun k => codewrightref04_Check.l0.eq_2 ..) (ev_no (by omega) (Ev.bind (hir hin) ?_))
  rw [hin, Bool.true_and]
  cases b with
  | true => exact ev_yes rfl (Ev.now _)
  | false => exact ev_no (by simp) (Ev.now _)
 | succ d ih =>
  intro i hi hin
  have hx : l[i]? = some (vl l i) := by simp [vl, List.getD_eq_getElem?_getD, show i < l.length by omega]
  have hmem : vl l i ∈ l := List.mem_of_getElem? hx
  have hbad : ¬ (0 ≤ vl l i ∧ vl l i < (p : Int)) → inq p l = false := fun hb => by
   unfold inq
   rw [List.all_eq_false]
   exact ⟨_, hmem, by simpa using hb⟩
  refine Ev.step (fun k => codewrightref04_Check.l0.eq_2 ..) (ev_yes (by omega) (ev_yes (by omega) (ev_yes (by omega) ?_)))
  rw [rd_vl]
  by_cases h1 : vl l i < 0
  ·refine ev_yes h1 (ev_const ?_)
   rw [hbad (by omega)]; rfl
  ·refine ev_no h1 ?_
   by_cases h2 : vl l i ≥ (p : Int)
   ·refine ev_yes h2 (ev_const ?_)
    rw [hbad (by omega)]; rfl
   ·refine ev_no h2 ?_
    rw [show wrap64 ((i : Int) + 1) = ((i + 1 : Nat) : Int) by rw [w64 (by omega) (by omega)]; omega]
    refine ih (i + 1) (by omega) ?_
    unfold inq at hin ⊢
    rw [List.take_add_one, hx, List.all_append, hin]
    simp
    omega
theorem inq_dg {p : Nat} (hp : 1 ≤ p) {l : List Int} (h : inq p l = true) : Dg p l := fun j => by
 rcases Nat.lt_or_ge j l.length with h1 | h1
 ·have hm : vl l j ∈ l := by
   have : vl l j = l[j] := by simp [vl, List.getD_eq_getElem?_getD, h1]
   rw [this]; exact List.getElem_mem h1
  have := List.all_eq_true.1 h _ hm
  simpa using this
 ·rw [vl_out _ _ h1]
  omega
def Cases (P M : Int) (l : List Int) : Prop :=
 (FBad P M l ∧ Ev (fun k => codewrightref04_Check.f k P M l) 1) ∨ ∃ (q : Nat) (e : List Int), FOk P M l q e ∧ Ev (fun k => codewrightref04_Check.f k P M l) 0 ∧ 2 ≤ q ∧ Ev (fun k => codewrightref04_Order.f k P M l) (q : Int) ∧
  (∀ x : Int, Ev (fun k => codewrightref04_Is.f k P M l x) (decide (0 ≤ x ∧ x < (q : Int)))) ∧ ∃ (A : Ar P M l q e (lgs q e e.length)) (B : RAr P M l), Agree q A.op B.op
theorem cases_bad {P M : Int} {l : List Int} (hs : Ev (fun k => field_shape.f k P M l) false) (hc : Ev (fun k => codewrightref04_Check.f k P M l) 1) : Cases P M l := by
 obtain ⟨k, hk⟩ := ev_at1 hs
 exact .inl ⟨⟨k, .inl hk⟩, hc⟩
theorem cases_gen {p m : Nat} (h : Pm p m) {l : List Int} (hmod : m ≠ 1 → Dg p l ∧ l.length = m) (hl : l.length ≤ 1000) (hs : Ev (fun k => field_shape.f k (p : Int) (m : Int) l) true) (ho : Ev (fun k => field_order.f k (p : Int) (m : Int)) ((p ^ m : Nat) : Int))
  (hr : Ev (fun k => codewrightref04_Order.f k (p : Int) (m : Int) l) ((p ^ m : Nat) : Int)) (b : Bool) (hb : b = true ↔ ∃ g, IsGen (p ^ m) (cm (res p (m - 1) (loc p m l)) p) g) (hc : Ev (fun k => codewrightref04_Check.f k (p : Int) (m : Int) l) (if b then 0 else 1)) : Cases (p : Int) (m : Int) l := by
 have M := res_mon h (loc p m l)
 have h2 := M.two
 obtain ⟨k1, hk1⟩ := hs
 obtain ⟨k2, hk2⟩ := ho
 rcases gen_ev h hmod with ⟨g, G, k3, hk3⟩ | ⟨hno, k3, hk3⟩
 ·have T := tab_of M G h.q
  have hbt : b = true := hb.2 ⟨g, G⟩
  rw [hbt, if_pos rfl] at hc
  refine .inr ⟨p ^ m, _, ⟨hl, fun e => ?_, h.q, fun i hi0 hi1 => ?_, ⟨k1 + k2 + k3, hk1 _ (by omega), hk2 _ (by omega), hk3 _ (by omega)⟩⟩, hc, h2, hr, is_ev h, arOf h rfl T, rarOf h hmod, agree_of h hmod T⟩
  ·have := pl_length (cm (res p (m - 1) (loc p m l)) p) g (p ^ m - 1)
   rw [e] at this
   simp at this
   omega
  ·obtain ⟨j, rfl⟩ : ∃ j : Nat, i = j := ⟨i.toNat, by omega⟩
   rw [pl_length] at hi1
   rw [rd_vl, vl_pl (by omega)]
   have := M.pw_lt G.lt j
   omega
 ·have hbf : b = false := by
   cases hb' : b with
   | false => rfl
   | true =>
    obtain ⟨g, G⟩ := hb.1 hb'
    exact absurd G (hno g)
  rw [hbf] at hc
  exact .inl ⟨⟨k1 + k2 + k3, .inr ⟨_, hk1 _ (by omega), hk2 _ (by omega), hk3 _ (by omega)⟩⟩, hc⟩
theorem field_cases (P M : Int) (l : List Int) : Cases P M l := by
 have s0 : Ev (fun k => field_shape.j0 k true P M l) false := Ev.step (fun k => field_shape.j0.eq_2 ..) (ev_yes rfl (Ev.now _))
 have r0 : Ev (fun k => codewrightref04_Check.j0 k true P M l) 1 := Ev.step (fun k => codewrightref04_Check.j0.eq_2 ..) (ev_yes rfl (Ev.now _))
 rcases order_cases P M l with ⟨p, m, rfl, rfl, h, ho, hr⟩ | ⟨ho, hr⟩
 ·have h2 := h.p2
  have h1 := h.m1
  have h8 := h.m8
  have h256 := h.p256
  have hpos : 0 < p ^ m := Nat.pow_pos (by omega)
  obtain ⟨hp, hrp⟩ := prime_cases h2 h256
  by_cases hb : (tab1.any fun x => x.1 == p) = true
  ·rw [hb] at hp hrp
   have sh : ∀ {b : Bool}, Ev (fun k => field_shape.j0 k false (p : Int) (m : Int) l) b → Ev (fun k => field_shape.f k (p : Int) (m : Int) l) b := fun hj => by
    unfold field_shape.f
    exact Ev.bind ho (ev_no (by omega) (Ev.bind hp hj))
   have rc : ∀ {b : Int}, Ev (fun k => codewrightref04_Check.j0 k false (p : Int) (m : Int) l) b → Ev (fun k => codewrightref04_Check.f k (p : Int) (m : Int) l) b := fun hj => by
    unfold codewrightref04_Check.f
    exact Ev.bind hr (ev_no (by omega) (Ev.bind hrp hj))
   by_cases hm : m = 1
   ·subst hm
    by_cases hl : l.length = 0
    ·obtain rfl : l = [] := List.eq_nil_of_length_eq_zero hl
     refine cases_gen h (fun hc => absurd rfl hc) (by simp) (sh (Ev.step (fun k => field_shape.j0.eq_2 ..) (ev_no (by simp) (ev_yes rfl (ev_const rfl))))) ho hr true ⟨fun _ => ?_, fun _ => rfl⟩ (rc (Ev.step (fun k => codewrightref04_Check.j0.eq_2 ..) (ev_no (by simp) (ev_yes rfl (ev_yes rfl (Ev.now _))))))
     obtain ⟨x, hx, hxp⟩ := List.any_eq_true.1 hb
     have := List.all_eq_true.1 tok1 x hx
     rw [beq_iff_eq.1 hxp] at this
     exact ⟨x.2, okg_gen (n := 0) h2 (by have := h.q; rwa [Nat.zero_add]) this⟩
    ·exact cases_bad (sh (Ev.step (fun k => field_shape.j0.eq_2 ..) (ev_no (by simp) (ev_yes rfl (ev_const (by rw [beq_eq_false_iff_ne.2 (by omega)])))))) (rc (Ev.step (fun k => codewrightref04_Check.j0.eq_2 ..) (ev_no (by simp) (ev_yes rfl (ev_no (by omega) (Ev.now _))))))
   ·by_cases hl : l.length = m
    ·have hsh := shape_l0 (p := p) (M := (m : Int)) (l := l) (l' := l) (by omega) l.length 0 (by omega)
     rw [List.drop_zero] at hsh
     have hshape : Ev (fun k => field_shape.f k (p : Int) (m : Int) l) (inq p l) := sh (Ev.step (fun k => field_shape.j0.eq_2 ..) (ev_no (by simp) (ev_no (by omega) (ev_yes (by omega) hsh))))
     have hcheck : ∀ {b : Bool}, (inq p l = true → Ev (fun k => codewrightref04_irreducible.f k l (p : Int)) b) → Ev (fun k => codewrightref04_Check.f k (p : Int) (m : Int) l) (if inq p l && b then 0 else 1) := fun hir => by
      have := rcheck_l0 (p := p) (l := l) (by omega) hir l.length 0 (by omega) rfl
      rw [hl] at this
      exact rc (Ev.step (fun k => codewrightref04_Check.j0.eq_2 ..) (ev_no (by simp) (ev_no (by omega) (ev_yes (by omega) this))))
     by_cases hin : inq p l = true
     ·have hd := inq_dg (by omega) hin
      have hmod : m ≠ 1 → Dg p l ∧ l.length = m := fun _ => ⟨hd, hl⟩
      have hm1 : m - 1 + 1 = m := by omega
      have hpm : (p, m) ∈ pms := by
       have h3 := List.all_eq_true.1 (List.all_eq_true.1 pms_all p (List.mem_range.2 (by omega))) m (List.mem_range.2 (by omega))
       have hq := h.q
       simp only [Bool.or_eq_true, decide_eq_true_eq, hb, Bool.not_true, Bool.false_eq_true, or_false] at h3
       rcases h3 with ((h3 | h3) | h3) | h3
       ·omega
       ·omega
       ·omega
       ·simpa using h3
      obtain ⟨t, z, htl, htok, hirk⟩ := pms_ok _ hpm
      simp only at htl htok hirk
      have hv : loc p m l < p ^ m := by unfold loc; rw [if_neg hm]; exact enc_lt (by omega) _ _
      obtain ⟨v, hvv⟩ : ∃ v, v = loc p m l := ⟨_, rfl⟩
      have hdl : dl p m v = l := vl_ext (by rw [dl_length, hl]) fun j hj => by
       rw [dl_length] at hj
       rw [vl_dl hj, hvv, loc_dig (by omega) hm hd j hj]
      have hI := irk_at t z 0 hirk v (by omega)
      rw [Nat.zero_add, hdl] at hI
      by_cases ht : t.getD v 0 = 0
      ·obtain ⟨⟨a, b, ha, hb', ha2, hb2, hab⟩, hir⟩ := hI.1 ht
       have hc := hcheck (fun _ => Ev.of (fun k => codewrightref04_irreducible.mono _ _ k) hir)
       rw [Bool.and_false] at hc
       rw [hin] at hshape
       refine cases_gen h hmod (by omega) hshape ho hr false (Iff.intro (fun hc => nomatch hc) (fun hG => ?_)) hc
       obtain ⟨g, G⟩ := hG
       have e := mx_eq (p := p) (n := m - 1) (lo := v) (x := a) (y := b) h2 (by rw [hm1]; exact ha2)
       rw [hm1, hab] at e
       rw [← hvv] at G
       have M := res_mon h v
       rcases G.noZero M ha2 hb2 e.symm with h4 | h4
       ·exact absurd h4 ha
       ·exact absurd h4 hb'
      ·have hir := hI.2 ht
       have hc := hcheck (fun _ => Ev.of (fun k => codewrightref04_irreducible.mono _ _ k) hir)
       rw [Bool.and_true, hin] at hc
       rw [hin] at hshape
       refine cases_gen h hmod (by omega) hshape ho hr true ⟨fun _ => ?_, fun _ => rfl⟩ hc
       have h5 := tok_at t 0 htok v (by omega) ht
       rw [Nat.zero_add] at h5
       have h6 := okg_gen (n := m - 1) h2 (by rw [hm1]; exact h.q) h5
       rw [hm1, hvv] at h6
       exact ⟨_, h6⟩
     ·have hin' : inq p l = false := by simpa using hin
      have hc := hcheck (b := true) (fun hc => absurd hc hin)
      rw [hin'] at hc hshape
      exact cases_bad hshape hc
    ·exact cases_bad (sh (Ev.step (fun k => field_shape.j0.eq_2 ..) (ev_no (by simp) (ev_no (by omega) (ev_no (by omega) (Ev.now _)))))) (rc (Ev.step (fun k => codewrightref04_Check.j0.eq_2 ..) (ev_no (by simp) (ev_no (by omega) (ev_no (by omega) (Ev.now _))))))
  ·have hb' : (tab1.any fun x => x.1 == p) = false := Bool.eq_false_iff.2 hb
   rw [hb'] at hp hrp
   exact cases_bad (by unfold field_shape.f; exact Ev.bind ho (ev_no (by omega) (Ev.bind hp s0))) (by unfold codewrightref04_Check.f; exact Ev.bind hr (ev_no (by omega) (Ev.bind hrp r0)))
 ·exact cases_bad (by unfold field_shape.f; exact Ev.bind ho (ev_yes rfl s0)) (by unfold codewrightref04_Check.f; exact Ev.bind hr (ev_yes rfl r0))
end Go.Proofs.Ytdhlogncpgaajaa.Ord
namespace Go.Proofs.Ytdhlogncpgaajaa.Ord
set_option linter.unusedVariables false
open Go.RowKit Go.Proofs.YtdhlogncpgaajaaW.PrintWords
theorem drop_vl {l : List Int} {i : Nat} (h : i < l.length) : l.drop i = vl l i :: l.drop (i + 1) := by
 rw [List.drop_eq_getElem_cons h]; simp [vl, List.getD_eq_getElem?_getD, h]
theorem wnext {i n : Nat} (h : i < n) (hn : n ≤ 9223372036854775807) : wrap64 ((i : Int) + 1) = ((i + 1 : Nat) : Int) := by rw [w64 (by omega) (by omega)]; omega
theorem sameInts_ev (a b : List Int) (ha : a.length ≤ 9223372036854775807) : Ev (fun k => codewrightref09_SameInts.f k a b) (decide (a = b)) := by
 unfold codewrightref09_SameInts.f
 by_cases hl : a.length = b.length
 ·refine ev_yes (by omega) ?_
  have key : ∀ (d i : Nat), i + d = a.length → Ev (fun k => codewrightref09_SameInts.l0 k a b (i : Int)) (decide (a.drop i = b.drop i)) := by
   intro d
   induction d with
   | zero =>
    intro i hi
    refine Ev.step (fun k => codewrightref09_SameInts.l0.eq_2 ..) (ev_no (by omega) (ev_const ?_))
    rw [List.drop_of_length_le (by omega), List.drop_of_length_le (by omega)]; rfl
   | succ d ih =>
    intro i hi
    refine Ev.step (fun k => codewrightref09_SameInts.l0.eq_2 ..) (ev_yes (by omega) (ev_yes (by omega) (ev_yes (by omega) ?_)))
    rw [rd_vl, rd_vl, drop_vl (show i < a.length by omega), drop_vl (show i < b.length by omega)]
    by_cases e : vl a i = vl b i
    ·refine ev_yes e ?_
     rw [wnext (show i < a.length by omega) ha]
     have := ih (i + 1) (by omega)
     rw [e]
     simpa using this
    ·refine ev_no e (ev_const ?_)
     rw [decide_eq_false (fun h => e (by injection h))]
  have := key a.length 0 (by omega)
  simpa using this
 ·refine ev_no (by omega) (ev_const ?_)
  rw [decide_eq_false (fun h => hl (by rw [h]))]
theorem sameRows_ev (a b : List (List Int)) (ha : a.length ≤ 9223372036854775807) (hr : ∀ r ∈ a, r.length ≤ 9223372036854775807) : Ev (fun k => codewrightref09_SameRows.f k a b) (decide (a = b)) := by
 unfold codewrightref09_SameRows.f
 by_cases hl : a.length = b.length
 ·refine ev_yes (by omega) ?_
  have key : ∀ (d i : Nat), i + d = a.length → Ev (fun k => codewrightref09_SameRows.l0 k a b (i : Int)) (decide (a.drop i = b.drop i)) := by
   intro d
   induction d with
   | zero =>
    intro i hi
    refine Ev.step (fun k => codewrightref09_SameRows.l0.eq_2 ..) (ev_no (by omega) (ev_const ?_))
    rw [List.drop_of_length_le (by omega), List.drop_of_length_le (by omega)]; rfl
   | succ d ih =>
    intro i hi
    refine Ev.step (fun k => codewrightref09_SameRows.l0.eq_2 ..) (ev_yes (by omega) (ev_yes (by omega) (ev_yes (by omega) ?_)))
    rw [drop_rd2 (show i < a.length by omega), drop_rd2 (show i < b.length by omega)]
    refine Ev.bind (sameInts_ev _ _ (hr _ (rd_mem2 (by omega) (by omega)))) ?_
    by_cases e : rd_L2 a (i : Int) = rd_L2 b (i : Int)
    ·refine ev_yes (decide_eq_true e) ?_
     rw [wnext (show i < a.length by omega) ha]
     have := ih (i + 1) (by omega)
     rw [e]
     simpa using this
    ·refine ev_no (by rw [decide_eq_false e]; simp) (ev_const ?_)
     rw [decide_eq_false (fun h => e (by injection h))]
  have := key a.length 0 (by omega)
  simpa using this
 ·refine ev_no (by omega) (ev_const ?_)
  rw [decide_eq_false (fun h => hl (by rw [h]))]
section
variable {P M : Int} {l : List Int} {q : Nat} (his : ∀ x : Int, Ev (fun k => codewrightref04_Is.f k P M l x) (decide (0 ≤ x ∧ x < (q : Int))))
include his
theorem rentries_ev (v : List Int) (hv : v.length ≤ 9223372036854775807) : Ev (fun k => codewrightref09_Entries.f k P M l v) (if inq q v then 0 else 2) := by
 unfold codewrightref09_Entries.f
 have key : ∀ (d i : Nat), i + d = v.length → Ev (fun k => codewrightref09_Entries.l0 k v (i : Int) P M l) (if inq q (v.drop i) then 0 else 2) := by
  intro d
  induction d with
  | zero =>
   intro i hi
   refine Ev.step (fun k => codewrightref09_Entries.l0.eq_2 ..) (ev_no (by omega) (ev_const ?_))
   rw [List.drop_of_length_le (by omega)]; rfl
  | succ d ih =>
   intro i hi
   refine Ev.step (fun k => codewrightref09_Entries.l0.eq_2 ..) (ev_yes (by omega) (ev_yes (by omega) (Ev.bind (his _) ?_)))
   rw [rd_vl]
   unfold inq
   rw [drop_vl (show i < v.length by omega), List.all_cons]
   by_cases h : 0 ≤ vl v i ∧ vl v i < (q : Int)
   ·refine ev_yes (decide_eq_true h) ?_
    rw [wnext (show i < v.length by omega) hv, decide_eq_true h, Bool.true_and]
    exact ih (i + 1) (by omega)
   ·refine ev_no (by rw [decide_eq_false h]; simp) (ev_const ?_)
    rw [decide_eq_false h, Bool.false_and]; rfl
 have := key v.length 0 (by omega)
 simpa using this
theorem rlist_ev (N : Int) (v : List Int) (hv : v.length ≤ 9223372036854775807) : Ev (fun k => codewrightref12_List.f k P M l v N) (wordR q N v) := by
 unfold codewrightref12_List.f wordR
 by_cases h : (v.length : Int) = N
 ·rw [if_pos h]
  exact ev_yes h (Ev.bind (rentries_ev his v hv) (Ev.now _))
 ·rw [if_neg h]
  exact ev_no h (Ev.now _)
variable (hc : Ev (fun k => codewrightref04_Check.f k P M l) 0)
include hc
theorem rcheck9_ev (cols : Int) (rows : List (List Int)) (hr : ∀ r ∈ rows, r.length ≤ 9223372036854775807) : Ev (fun k => codewrightref09_Check.f k P M l cols rows) (chkR cols rows q) := by
 unfold codewrightref09_Check.f chkR
 refine Ev.bind hc (ev_yes rfl ?_)
 have j3 : Ev (fun k => codewrightref09_Check.j0 k true P M l cols rows) 3 := Ev.step (fun k => codewrightref09_Check.j0.eq_2 ..) (ev_yes rfl (Ev.now _))
 by_cases c1 : cols < 0
 ·rw [if_pos (.inl c1)]
  exact ev_yes c1 j3
 by_cases c2 : cols > 256
 ·rw [if_pos (.inr (.inl c2))]
  exact ev_no c1 (ev_yes c2 j3)
 by_cases c3 : (rows.length : Int) > 256
 ·rw [if_pos (.inr (.inr c3))]
  refine ev_no c1 (ev_no c2 ?_)
  rw [decide_eq_true c3]; exact j3
 rw [if_neg (by omega)]
 refine ev_no c1 (ev_no c2 ?_)
 rw [decide_eq_false c3]
 refine Ev.step (fun k => codewrightref09_Check.j0.eq_2 ..) (ev_no (by simp) ?_)
 have key1 : ∀ (d i : Nat), i + d = rows.length → Ev (fun k => codewrightref09_Check.l1 k (i : Int) P M l cols rows) (if (rows.drop i).all (inq q) then 0 else 2) := by
  intro d
  induction d with
  | zero =>
   intro i hi
   refine Ev.step (fun k => codewrightref09_Check.l1.eq_2 ..) (ev_no (by omega) (ev_const ?_))
   rw [List.drop_of_length_le (by omega)]; rfl
  | succ d ih =>
   intro i hi
   refine Ev.step (fun k => codewrightref09_Check.l1.eq_2 ..) (ev_yes (by omega) (ev_yes (by omega) (Ev.bind (rentries_ev his _ (hr _ (rd_mem2 (by omega) (by omega)))) ?_)))
   rw [drop_rd2 (show i < rows.length by omega), List.all_cons]
   by_cases h : inq q (rd_L2 rows (i : Int)) = true
   ·refine ev_yes (by rw [if_pos h]) ?_
    rw [wnext (show i < rows.length by omega) (by omega), h, Bool.true_and]
    exact ih (i + 1) (by omega)
   ·refine ev_no (by rw [if_neg h]; omega) (ev_const ?_)
    rw [if_neg h, Bool.eq_false_iff.2 h, Bool.false_and]; rfl
 have key0 : ∀ (d i : Nat), i + d = rows.length → Ev (fun k => codewrightref09_Check.l0 k (i : Int) P M l cols rows) (if (rows.drop i).any (fun r => decide ((r.length : Int) ≠ cols)) then 3 else if rows.all (inq q) then 0 else 2) := by
  intro d
  induction d with
  | zero =>
   intro i hi
   refine Ev.step (fun k => codewrightref09_Check.l0.eq_2 ..) (ev_no (by omega) ?_)
   rw [List.drop_of_length_le (by omega)]
   have := key1 rows.length 0 (by omega)
   simpa using this
  | succ d ih =>
   intro i hi
   refine Ev.step (fun k => codewrightref09_Check.l0.eq_2 ..) (ev_yes (by omega) (ev_yes (by omega) ?_))
   rw [drop_rd2 (show i < rows.length by omega), List.any_cons]
   by_cases h : ((rd_L2 rows (i : Int)).length : Int) = cols
   ·refine ev_yes h ?_
    rw [wnext (show i < rows.length by omega) (by omega), decide_eq_false (by simpa using h), Bool.false_or]
    exact ih (i + 1) (by omega)
   ·refine ev_no h (ev_const ?_)
    rw [decide_eq_true (by simpa using h), Bool.true_or, if_pos rfl]
 have := key0 rows.length 0 (by omega)
 simpa using this
variable (B : RAr P M l)
theorem rcheck10_ev (cols : Int) (rows : List (List Int)) (hr : ∀ r ∈ rows, r.length ≤ 9223372036854775807) : Ev (fun k => codewrightref10_Check.f k P M l cols rows) (spcR B.op cols rows q) := by
 unfold codewrightref10_Check.f spcR
 refine Ev.bind (rcheck9_ev his hc cols rows hr) ?_
 by_cases h : chkR cols rows q = 0
 ·rw [if_neg (by simpa using h)]
  refine ev_yes h ?_
  obtain ⟨m, rfl, hm, hn, hw, hin⟩ := chkR_zero h
  have hE := Elim_some (P := P) (M := M) (l := l) B hw (by omega) (by omega) (Nat.le_refl m)
  have hlen := elimG_length B.op m 0 rows [] (by simp)
  obtain ⟨fin, hfin⟩ : ∃ f, f = elimG B.op m 0 rows [] := ⟨_, rfl⟩
  have hcan : codewrightref09_Canon.f P M l rows (m : Int) = some (fin.1.take fin.2.length, fin.2) := by
   unfold codewrightref09_Canon.f
   rw [hE, ← hfin]
   rw [← hfin] at hlen
   simp only [Option.bind_some]
   rw [if_pos (by omega), if_pos (by omega), Int.toNat_natCast]
  refine ev_let hcan ?_
  dsimp only
  unfold canonR
  rw [Int.toNat_natCast, ← hfin]
  by_cases e : fin.1.take fin.2.length = rows
  ·rw [if_pos e]
   refine Ev.bind (sameRows_ev _ _ (by rw [e]; omega) (by rw [e]; exact hr)) (ev_yes (decide_eq_true e) (Ev.now _))
  ·rw [if_neg e]
   have hwid : ∀ (d c : Nat) (x : List (List Int)) (p : List Int), Wide m x → Wide m (elimG B.op d c x p).1 := by
    intro d
    induction d with
    | zero => intro c x p hx; exact hx
    | succ d ih =>
     intro c x p hx
     by_cases hp : p.length < x.length
     ·cases hs : stepC B.op (c : Int) p.length x with
      | none => rw [elimG_none B.op d c x p hp hs]; exact ih _ _ _ hx
      | some x' =>
       rw [elimG_some B.op d c x x' p hp hs]
       refine ih _ _ _ ?_
       have hb := pivF_bounds (c : Int) x (x.length - p.length) p.length
       unfold stepC at hs
       split at hs
       ·cases hs
       ·rename_i hk
        injection hs with hs
        rw [← hs]
        have h1 : Wide m (swapL x p.length (pivF (c : Int) x (x.length - p.length) p.length) []) := hx.swap hp (by omega)
        have h2 := h1.fac B.op (at_ := p.length) (c : Int) (by rw [swapL_length]; exact hp)
        exact h2.clr B.op p.length (c : Int) x.length (by rw [facL_length, swapL_length]; omega)
     ·rw [elimG_stop B.op (d + 1) c x p hp]; exact hx
   refine Ev.bind (sameRows_ev _ _ (by rw [List.length_take]; rw [← hfin] at hlen; omega) (fun r hr' => ?_)) (ev_no (by rw [decide_eq_false e]; simp) (Ev.now _))
   have := hwid m 0 rows [] hw r (by rw [← hfin]; exact List.mem_of_mem_take hr')
   omega
 ·rw [if_pos h]
  exact ev_no h (Ev.now _)
theorem rcheck12_ev (N : Int) (rows : List (List Int)) (hr : ∀ r ∈ rows, r.length ≤ 9223372036854775807) : Ev (fun k => codewrightref12_Check.f k P M l N rows) (codeR B.op N rows q) := by
 unfold codewrightref12_Check.f codeR
 refine Ev.bind hc (ev_yes rfl ?_)
 by_cases h1 : N < 1
 ·rw [if_pos (.inl h1)]
  exact ev_yes h1 (Ev.now _)
 ·by_cases h2 : N > 64
  ·rw [if_pos (.inr h2)]
   exact ev_no h1 (ev_yes h2 (Ev.now _))
  ·rw [if_neg (by omega)]
   exact ev_no h1 (ev_no h2 (Ev.bind (rcheck10_ev his hc B N rows hr) (Ev.now _)))
theorem rword_ev (N : Int) (rows : List (List Int)) (hr : ∀ r ∈ rows, r.length ≤ 9223372036854775807) (v : List Int) (hv : v.length ≤ 9223372036854775807) : Ev (fun k => codewrightref12_Word.f k P M l N rows v) (if codeR B.op N rows q = 0 then wordR q N v else codeR B.op N rows q) := by
 unfold codewrightref12_Word.f
 refine Ev.bind (rcheck12_ev his hc B N rows hr) ?_
 by_cases h : codeR B.op N rows q = 0
 ·rw [if_pos h]
  exact ev_yes h (Ev.bind (rlist_ev his N v hv) (Ev.now _))
 ·rw [if_neg h]
  exact ev_no h (Ev.now _)
variable (hord : Ev (fun k => codewrightref04_Order.f k P M l) (q : Int))
include hord
theorem rcheck42_ev (N : Int) (rows costs : List (List Int)) (hr : ∀ r ∈ rows, r.length ≤ 9223372036854775807) (hcl : costs.length ≤ 9223372036854775807) (hcr : ∀ r ∈ costs, r.length ≤ 9223372036854775807) : Ev (fun k => codewrightref42_Check.f k P M l N rows costs) (ordR B.op N rows costs q) := by
 unfold codewrightref42_Check.f ordR
 refine Ev.bind (rcheck12_ev his hc B N rows hr) ?_
 by_cases h : codeR B.op N rows q = 0
 ·rw [if_neg (by simpa using h)]
  refine ev_yes h ?_
  by_cases h2 : (costs.length : Int) = N
  ·rw [if_neg (by simpa using h2)]
   refine ev_yes h2 ?_
   have key : ∀ (d i : Nat), i + d = costs.length → Ev (fun k => codewrightref42_Check.l0 k costs (i : Int) P M l N rows) (costR q (costs.drop i)) := by
    intro d
    induction d with
    | zero =>
     intro i hi
     refine Ev.step (fun k => codewrightref42_Check.l0.eq_2 ..) (ev_no (by omega) (ev_const ?_))
     rw [List.drop_of_length_le (by omega)]; rfl
    | succ d ih =>
     intro i hi
     have hrl := hcr _ (rd_mem2 (rows := costs) (i := (i : Int)) (by omega) (by omega))
     refine Ev.step (fun k => codewrightref42_Check.l0.eq_2 ..) (ev_yes (by omega) (ev_yes (by omega) (Ev.bind hord ?_)))
     rw [drop_rd2 (show i < costs.length by omega)]
     obtain ⟨r, hrr⟩ : ∃ r, r = rd_L2 costs (i : Int) := ⟨_, rfl⟩
     unfold costR
     by_cases h3 : ((rd_L2 costs (i : Int)).length : Int) = (q : Int)
     ·rw [if_neg (by simpa using h3)]
      refine ev_yes h3 ?_
      have inner : ∀ (d2 j : Nat), j + d2 = (rd_L2 costs (i : Int)).length → Ev (fun k => codewrightref42_Check.l1 k costs (i : Int) (j : Int) P M l N rows) (if ((rd_L2 costs (i : Int)).drop j).all okCost then costR q (costs.drop (i + 1)) else 6) := by
       intro d2
       induction d2 with
       | zero =>
        intro j hj
        refine Ev.step (fun k => codewrightref42_Check.l1.eq_2 ..) (ev_yes (by omega) (ev_yes (by omega) (ev_no (by omega) ?_)))
        rw [List.drop_of_length_le (by omega), wnext (show i < costs.length by omega) hcl]
        exact ih (i + 1) (by omega)
       | succ d2 ih2 =>
        intro j hj
        refine Ev.step (fun k => codewrightref42_Check.l1.eq_2 ..) (ev_yes (by omega) (ev_yes (by omega) (ev_yes (by omega) (ev_yes (by omega) ?_))))
        rw [rd_vl, drop_vl (show j < (rd_L2 costs (i : Int)).length by omega), List.all_cons]
        by_cases h4 : vl (rd_L2 costs (i : Int)) j < 0
        ·refine ev_yes h4 (ev_const ?_)
         have : okCost (vl (rd_L2 costs (i : Int)) j) = false := by unfold okCost; exact decide_eq_false (by omega)
         rw [this, Bool.false_and]; rfl
        ·refine ev_no h4 ?_
         by_cases h5 : vl (rd_L2 costs (i : Int)) j > 2147483648
         ·refine ev_yes h5 (ev_const ?_)
          have : okCost (vl (rd_L2 costs (i : Int)) j) = false := by unfold okCost; exact decide_eq_false (by omega)
          rw [this, Bool.false_and]; rfl
         ·refine ev_no h5 ?_
          have : okCost (vl (rd_L2 costs (i : Int)) j) = true := by unfold okCost; exact decide_eq_true (by omega)
          rw [this, Bool.true_and, wnext (show j < (rd_L2 costs (i : Int)).length by omega) hrl]
          exact ih2 (j + 1) (by omega)
      have := inner _ 0 (Nat.zero_add _)
      simpa using this
     ·rw [if_pos (by simpa using h3)]
      exact ev_no h3 (Ev.now _)
   have := key costs.length 0 (by omega)
   simpa using this
  ·rw [if_pos h2]
   exact ev_no h2 (Ev.now _)
 ·rw [if_pos h]
  exact ev_no h (Ev.now _)
end
theorem spcR_agree {q : Nat} {o o' : Op4} (A : Agree q o o') (hq : 0 < q) (cols : Int) (rows : List (List Int)) : spcR o cols rows q = spcR o' cols rows q := by
 by_cases h : chkR cols rows q = 0
 ·obtain ⟨m, rfl, hm, hn, hw, hin⟩ := chkR_zero h
  have hI : InR q rows := fun r hr x hx => by
   have := List.all_eq_true.1 (hin r hr) x hx
   simpa using this
  have e : canonR o (m : Int).toNat rows = canonR o' (m : Int).toNat rows := by
   unfold canonR
   rw [(elim_eq A hq _ 0 rows [] hI).1]
  unfold spcR
  rw [e]
 ·unfold spcR
  rw [if_pos h, if_pos h]
theorem codeR_agree {q : Nat} {o o' : Op4} (A : Agree q o o') (hq : 0 < q) (N : Int) (rows : List (List Int)) : codeR o N rows q = codeR o' N rows q := by
 unfold codeR
 rw [spcR_agree A hq]
theorem ordR_agree {q : Nat} {o o' : Op4} (A : Agree q o o') (hq : 0 < q) (N : Int) (rows costs : List (List Int)) : ordR o N rows costs q = ordR o' N rows costs q := by
 unfold ordR
 rw [codeR_agree A hq]
end Go.Proofs.Ytdhlogncpgaajaa.Ord
namespace Go.Proofs.Ytdhlogncpgaajaa.Ord
set_option linter.unusedVariables false
open Go.RowKit Go.Proofs.YtdhlogncpgaajaaW.PrintWords
def bst (r : List Int) (b j : Nat) : Nat → Nat
 | 0 => b
 | d + 1 => if vl r j < vl r b then bst r j (j + 1) d else bst r b (j + 1) d
def scd (r : List Int) (b : Nat) (s : Int) (j : Nat) : Nat → Int
 | 0 => s
 | d + 1 => if j = b then scd r b s (j + 1) d else if s < 0 ∨ vl r j < s then scd r b (vl r j) (j + 1) d else scd r b s (j + 1) d
def hrd (r : List Int) : Nat := bst r 0 0 r.length
def snd2 (r : List Int) : Int := scd r (hrd r) (-1) 0 r.length
def hardL (costs : List (List Int)) : List Int := costs.map fun r => ((hrd r : Nat) : Int)
def relL (costs : List (List Int)) : List Int := costs.map fun r => snd2 r - vl r (hrd r)
theorem bst_lt (r : List Int) : ∀ d b j, b < r.length → j + d ≤ r.length → bst r b j d < r.length
 | 0, b, j, hb, _ => hb
 | d + 1, b, j, hb, hj => by
  unfold bst
  split
  ·exact bst_lt r d j (j + 1) (by omega) (by omega)
  ·exact bst_lt r d b (j + 1) hb (by omega)
theorem hrd_lt {r : List Int} (h : 0 < r.length) : hrd r < r.length := bst_lt r _ _ _ h (by omega)
def CostOk (q : Nat) (costs : List (List Int)) : Prop := ∀ r ∈ costs, r.length = q ∧ ∀ j, 0 ≤ vl r j ∧ vl r j ≤ 2147483648
theorem costR_ok {q : Nat} : ∀ {costs : List (List Int)}, costR q costs = 0 → CostOk q costs
 | [], _, r, hr => by simp at hr
 | r :: l, h, x, hx => by
  unfold costR at h
  split at h
  ·omega
  ·rename_i h1
   split at h
   ·rename_i h2
    rcases List.mem_cons.1 hx with rfl | hx
    ·refine ⟨by omega, fun j => ?_⟩
     rcases Nat.lt_or_ge j x.length with h3 | h3
     ·have := List.all_eq_true.1 h2 (vl x j) (by
       have : vl x j = x[j] := by simp [vl, List.getD_eq_getElem?_getD, h3]
       rw [this]; exact List.getElem_mem h3)
      unfold okCost at this
      exact of_decide_eq_true this
     ·rw [vl_out _ _ h3]; omega
    ·exact costR_ok h x hx
   ·omega
theorem take_map_step {α : Type} (f : List Int → α) {costs : List (List Int)} {i : Nat} (h : i < costs.length) : (costs.map f).take (i + 1) = (costs.map f).take i ++ [f (rd_L2 costs (i : Int))] := by
 rw [List.take_succ_eq_append_getElem (by simpa using h), rd2_get h]
 simp
section
variable {q : Nat} {costs : List (List Int)} (hq : 1 ≤ q) (h256 : q ≤ 256) (hC : CostOk q costs) (hl : costs.length ≤ 1000)
include hC
theorem cost_row {i : Nat} (h : i < costs.length) : (rd_L2 costs (i : Int)).length = q ∧ ∀ j, 0 ≤ vl (rd_L2 costs (i : Int)) j ∧ vl (rd_L2 costs (i : Int)) j ≤ 2147483648 := hC _ (by rw [rd2_get h]; exact List.getElem_mem h)
include hq h256 hl
theorem hard_ev : Ev (fun k => ordered_hard.f k costs) (hardL costs, relL costs) := by
 unfold ordered_hard.f
 have key : ∀ (d i : Nat), i + d = costs.length → Ev (fun k => ordered_hard.l0 k ((hardL costs).take i) ((relL costs).take i) costs (costs.length : Int) (i : Int)) (hardL costs, relL costs) := by
  intro d
  induction d with
  | zero =>
   intro i hi
   refine Ev.step (fun k => ordered_hard.l0.eq_2 ..) (ev_no (by omega) (ev_const ?_))
   rw [List.take_of_length_le (by simp [hardL]; omega), List.take_of_length_le (by simp [relL]; omega)]
  | succ d ih =>
   intro i hi
   have hi' : i < costs.length := by omega
   obtain ⟨hrl, hrb⟩ := cost_row hC hi'
   refine Ev.step (fun k => ordered_hard.l0.eq_2 ..) (ev_yes (by omega) (ev_yes (by omega) (ev_yes (by omega) ?_)))
   obtain ⟨r, hr⟩ : ∃ r, r = rd_L2 costs (i : Int) := ⟨_, rfl⟩
   rw [← hr] at hrl hrb ⊢
   have l2 : ∀ (d2 j : Nat) (b : Nat) (s : Int), j + d2 = r.length → b < r.length → b = hrd r → -1 ≤ s → s ≤ 2147483648 → scd r b s j d2 = snd2 r → Ev (fun k => ordered_hard.l2 k ((hardL costs).take i) ((relL costs).take i) r (b : Int) s costs (costs.length : Int) (i : Int) r (r.length : Int) (j : Int)) (hardL costs, relL costs) := by
    intro d2
    induction d2 with
    | zero =>
     intro j b s hj hb hbh hs1 hs2 hsc
     have e1 : (hardL costs).take i ++ [(b : Int)] = (hardL costs).take (i + 1) := by unfold hardL; rw [take_map_step _ hi', ← hr, hbh]
     have e2 : (relL costs).take i ++ [wrap64 (s - rd r (b : Int))] = (relL costs).take (i + 1) := by
      have hb2 := hrb b
      unfold relL
      rw [take_map_step _ hi', ← hr, rd_vl, w64 (by omega) (by omega), ← hsc, ← hbh]
      rfl
     refine Ev.step (fun k => ordered_hard.l2.eq_2 ..) (ev_no (by omega) (ev_yes (by simp [hardL]; omega) (ev_yes (by omega) (ev_yes (by omega) (ev_yes (by simp [relL]; omega) ?_)))))
     rw [e1, e2, wnext hi' (by omega)]
     exact ih (i + 1) (by omega)
    | succ d2 ih2 =>
     intro j b s hj hb hbh hs1 hs2 hsc
     have hjb := hrb j
     refine Ev.step (fun k => ordered_hard.l2.eq_2 ..) (ev_yes (by omega) (ev_yes (by omega) (ev_yes (by omega) ?_)))
     rw [wnext (show j < r.length by omega) (by omega), rd_vl]
     unfold scd at hsc
     by_cases h1 : j = b
     ·rw [if_pos h1] at hsc
      exact ev_yes (by omega) (ih2 (j + 1) b s (by omega) hb hbh hs1 hs2 hsc)
     ·rw [if_neg h1] at hsc
      refine ev_no (by omega) ?_
      by_cases h2 : s < 0
      ·rw [if_pos (.inl h2)] at hsc
       exact ev_yes h2 (ih2 (j + 1) b _ (by omega) hb hbh (by omega) (by omega) hsc)
      ·refine ev_no h2 ?_
       by_cases h3 : vl r j < s
       ·rw [if_pos (.inr h3)] at hsc
        exact ev_yes h3 (ih2 (j + 1) b _ (by omega) hb hbh (by omega) (by omega) hsc)
       ·rw [if_neg (by omega)] at hsc
        exact ev_no h3 (ih2 (j + 1) b s (by omega) hb hbh hs1 hs2 hsc)
   have l1 : ∀ (d2 j : Nat) (b : Nat), j + d2 = r.length → b < r.length → bst r b j d2 = hrd r → Ev (fun k => ordered_hard.l1 k ((hardL costs).take i) ((relL costs).take i) r (b : Int) costs (costs.length : Int) (i : Int) r (r.length : Int) (j : Int)) (hardL costs, relL costs) := by
    intro d2
    induction d2 with
    | zero =>
     intro j b hj hb hbh
     refine Ev.step (fun k => ordered_hard.l1.eq_2 ..) (ev_no (by omega) ?_)
     have hbh' : b = hrd r := hbh
     exact l2 r.length 0 b (-1) (by omega) hb hbh' (by omega) (by omega) (by rw [hbh']; rfl)
    | succ d2 ih2 =>
     intro j b hj hb hbh
     refine Ev.step (fun k => ordered_hard.l1.eq_2 ..) (ev_yes (by omega) (ev_yes (by omega) (ev_yes (by omega) (ev_yes (by omega) (ev_yes (by omega) ?_)))))
     rw [wnext (show j < r.length by omega) (by omega), rd_vl, rd_vl]
     unfold bst at hbh
     by_cases h1 : vl r j < vl r b
     ·rw [if_pos h1] at hbh
      exact ev_yes h1 (ih2 (j + 1) j (by omega) (by omega) hbh)
     ·rw [if_neg h1] at hbh
      exact ev_no h1 (ih2 (j + 1) b (by omega) hb hbh)
   exact l1 r.length 0 0 (by omega) (by omega) rfl
 have := key costs.length 0 (by omega)
 simpa using this
theorem rhard_ev : Ev (fun k => codewrightref42_Hard.f k costs) (hardL costs) := by
 unfold codewrightref42_Hard.f
 have key : ∀ (d i : Nat), i + d = costs.length → Ev (fun k => codewrightref42_Hard.l0 k costs ((hardL costs).take i) (i : Int)) (hardL costs) := by
  intro d
  induction d with
  | zero =>
   intro i hi
   refine Ev.step (fun k => codewrightref42_Hard.l0.eq_2 ..) (ev_no (by omega) (ev_const ?_))
   rw [List.take_of_length_le (by simp [hardL]; omega)]
  | succ d ih =>
   intro i hi
   have hi' : i < costs.length := by omega
   obtain ⟨hrl, hrb⟩ := cost_row hC hi'
   refine Ev.step (fun k => codewrightref42_Hard.l0.eq_2 ..) (ev_yes (by omega) ?_)
   obtain ⟨r, hr⟩ : ∃ r, r = rd_L2 costs (i : Int) := ⟨_, rfl⟩
   have hrl' : r.length = q := by rw [hr]; exact hrl
   have l1 : ∀ (d2 j : Nat) (b : Nat), j + d2 = r.length → b < r.length → bst r b j d2 = hrd r → Ev (fun k => codewrightref42_Hard.l1 k costs ((hardL costs).take i) (i : Int) (b : Int) (j : Int)) (hardL costs) := by
    intro d2
    induction d2 with
    | zero =>
     intro j b hj hb hbh
     have hbh' : b = hrd r := hbh
     have e1 : (hardL costs).take i ++ [(b : Int)] = (hardL costs).take (i + 1) := by unfold hardL; rw [take_map_step _ hi', ← hr, hbh']
     refine Ev.step (fun k => codewrightref42_Hard.l1.eq_2 ..) (ev_yes (by omega) (ev_yes (by omega) ?_))
     rw [← hr]
     refine ev_no (by omega) (ev_yes (by simp [hardL]; omega) ?_)
     rw [e1, wnext hi' (by omega)]
     exact ih (i + 1) (by omega)
    | succ d2 ih2 =>
     intro j b hj hb hbh
     refine Ev.step (fun k => codewrightref42_Hard.l1.eq_2 ..) (ev_yes (by omega) (ev_yes (by omega) ?_))
     rw [← hr]
     refine ev_yes (by omega) (ev_yes (by omega) (ev_yes (by omega) (ev_yes (by omega) ?_)))
     rw [wnext (show j < r.length by omega) (by omega), rd_vl, rd_vl]
     unfold bst at hbh
     by_cases h1 : vl r j < vl r b
     ·rw [if_pos h1] at hbh
      exact ev_yes h1 (ih2 (j + 1) j (by omega) (by omega) hbh)
     ·rw [if_neg h1] at hbh
      exact ev_no h1 (ih2 (j + 1) b (by omega) hb hbh)
   exact l1 r.length 0 0 (by omega) (by omega) rfl
 have := key costs.length 0 (by omega)
 simpa using this
omit hq h256 hC hl in
theorem hardL_rd {i : Nat} (h : i < costs.length) : rd (hardL costs) (i : Int) = ((hrd (rd_L2 costs (i : Int)) : Nat) : Int) := by
 rw [rd2_get h]
 simp [rd, hardL, List.getD_eq_getElem?_getD, h]
theorem rrel_ev : Ev (fun k => codewrightref42_Reliability.f k costs) (relL costs) := by
 unfold codewrightref42_Reliability.f
 refine Ev.bind (rhard_ev hq h256 hC hl) ?_
 have hhl : (hardL costs).length = costs.length := by simp [hardL]
 have key : ∀ (d i : Nat), i + d = costs.length → Ev (fun k => codewrightref42_Reliability.l0 k costs (hardL costs) ((relL costs).take i) (i : Int)) (relL costs) := by
  intro d
  induction d with
  | zero =>
   intro i hi
   refine Ev.step (fun k => codewrightref42_Reliability.l0.eq_2 ..) (ev_no (by omega) (ev_const ?_))
   rw [List.take_of_length_le (by simp [relL]; omega)]
  | succ d ih =>
   intro i hi
   have hi' : i < costs.length := by omega
   obtain ⟨hrl, hrb⟩ := cost_row hC hi'
   refine Ev.step (fun k => codewrightref42_Reliability.l0.eq_2 ..) (ev_yes (by omega) ?_)
   have hh := hardL_rd hi'
   obtain ⟨r, hr⟩ : ∃ r, r = rd_L2 costs (i : Int) := ⟨_, rfl⟩
   rw [← hr] at hh hrl hrb
   have hlt := hrd_lt (r := r) (by omega)
   obtain ⟨b, hbh⟩ : ∃ b, b = hrd r := ⟨_, rfl⟩
   rw [← hbh] at hh hlt
   have l1 : ∀ (d2 j : Nat) (s : Int), j + d2 = r.length → -1 ≤ s → s ≤ 2147483648 → scd r b s j d2 = snd2 r → Ev (fun k => codewrightref42_Reliability.l1 k costs (hardL costs) ((relL costs).take i) (i : Int) s (j : Int)) (relL costs) := by
    intro d2
    induction d2 with
    | zero =>
     intro j s hj hs1 hs2 hsc
     have e2 : (relL costs).take i ++ [wrap64 (s - rd r (b : Int))] = (relL costs).take (i + 1) := by
      have hb2 := hrb b
      unfold relL
      rw [take_map_step _ hi', ← hr, rd_vl, w64 (by omega) (by omega), ← hsc, ← hbh]
      rfl
     refine Ev.step (fun k => codewrightref42_Reliability.l1.eq_2 ..) (ev_yes (by omega) (ev_yes (by omega) ?_))
     rw [← hr, hh]
     refine ev_no (by omega) (ev_yes (by omega) (ev_yes (by omega) (ev_yes (by omega) (ev_yes (by simp [relL]; omega) ?_))))
     rw [e2, wnext hi' (by omega)]
     exact ih (i + 1) (by omega)
    | succ d2 ih2 =>
     intro j s hj hs1 hs2 hsc
     have hjb := hrb j
     refine Ev.step (fun k => codewrightref42_Reliability.l1.eq_2 ..) (ev_yes (by omega) (ev_yes (by omega) ?_))
     rw [← hr, hh]
     refine ev_yes (by omega) (ev_yes (by omega) ?_)
     rw [wnext (show j < r.length by omega) (by omega), rd_vl]
     unfold scd at hsc
     by_cases h1 : j = b
     ·rw [if_pos h1] at hsc
      exact ev_yes (by omega) (ih2 (j + 1) s (by omega) hs1 hs2 hsc)
     ·rw [if_neg h1] at hsc
      refine ev_no (by omega) ?_
      by_cases h2 : s < 0
      ·rw [if_pos (.inl h2)] at hsc
       exact ev_yes h2 (ev_yes (by omega) (ih2 (j + 1) _ (by omega) (by omega) (by omega) hsc))
      ·refine ev_no h2 (ev_yes (by omega) ?_)
       by_cases h3 : vl r j < s
       ·rw [if_pos (.inr h3)] at hsc
        exact ev_yes h3 (ih2 (j + 1) _ (by omega) (by omega) (by omega) hsc)
       ·rw [if_neg (by omega)] at hsc
        exact ev_no h3 (ih2 (j + 1) s (by omega) hs1 hs2 hsc)
   exact l1 r.length 0 (-1) (by omega) (by omega) (by omega) (by rw [hbh]; rfl)
 have := key costs.length 0 (by omega)
 simpa using this
end
def tot (costs : List (List Int)) (w : List Int) : Nat → Int
 | 0 => 0
 | n + 1 => tot costs w n + vl (rd_L2 costs (n : Int)) (vl w n).toNat
theorem rd_nat {r : List Int} {x : Int} (h : 0 ≤ x) : rd r x = vl r x.toNat := by
 obtain ⟨n, rfl⟩ := Int.eq_ofNat_of_zero_le h
 rw [Int.toNat_natCast]
 exact rd_vl r n
section
variable {q : Nat} {costs : List (List Int)} {w : List Int} (hC : CostOk q costs) (hl : costs.length ≤ 1000) (hw : w.length ≤ costs.length) (hin : ∀ j, j < w.length → 0 ≤ vl w j ∧ vl w j < (q : Int))
include hC hl hw
theorem tot_bounds : ∀ n, n ≤ w.length → 0 ≤ tot costs w n ∧ tot costs w n ≤ (n : Int) * 2147483648
 | 0, _ => by simp [tot]
 | n + 1, h => by
  have ih := tot_bounds n (by omega)
  have := (cost_row hC (show n < costs.length by omega)).2 (vl w n).toNat
  unfold tot
  omega
include hin
theorem total_ev : Ev (fun k => ordered_total.f k costs w) (tot costs w w.length) := by
 unfold ordered_total.f
 have key : ∀ (d i : Nat), i + d = w.length → Ev (fun k => ordered_total.l0 k costs (tot costs w i) w (w.length : Int) (i : Int)) (tot costs w w.length) := by
  intro d
  induction d with
  | zero =>
   intro i hi
   refine Ev.step (fun k => ordered_total.l0.eq_2 ..) (ev_no (by omega) (ev_const ?_))
   rw [show i = w.length by omega]
  | succ d ih =>
   intro i hi
   have h1 := hin i (by omega)
   obtain ⟨h2, h3⟩ := cost_row hC (show i < costs.length by omega)
   have h4 := tot_bounds hC hl hw (i + 1) (by omega)
   refine Ev.step (fun k => ordered_total.l0.eq_2 ..) (ev_yes (by omega) (ev_yes (by omega) (ev_yes (by omega) (ev_yes (by omega) ?_))))
   rw [rd_vl]
   refine ev_yes (by omega) (ev_yes (by omega) ?_)
   rw [rd_nat h1.1, show wrap64 (tot costs w i + vl (rd_L2 costs (i : Int)) (vl w i).toNat) = tot costs w (i + 1) from w64 (by unfold tot at h4; omega) (by unfold tot at h4; omega), wnext (show i < w.length by omega) (by omega)]
   exact ih (i + 1) (by omega)
 exact key w.length 0 (by omega)
theorem rcost_ev : Ev (fun k => codewrightref42_Cost.f k costs w) (tot costs w w.length) := by
 unfold codewrightref42_Cost.f
 have key : ∀ (d i : Nat), i + d = w.length → Ev (fun k => codewrightref42_Cost.l0 k costs w (tot costs w i) (i : Int)) (tot costs w w.length) := by
  intro d
  induction d with
  | zero =>
   intro i hi
   refine Ev.step (fun k => codewrightref42_Cost.l0.eq_2 ..) (ev_no (by omega) (ev_const ?_))
   rw [show i = w.length by omega]
  | succ d ih =>
   intro i hi
   have h1 := hin i (by omega)
   obtain ⟨h2, h3⟩ := cost_row hC (show i < costs.length by omega)
   have h4 := tot_bounds hC hl hw (i + 1) (by omega)
   refine Ev.step (fun k => codewrightref42_Cost.l0.eq_2 ..) (ev_yes (by omega) (ev_yes (by omega) (ev_yes (by omega) ?_)))
   rw [rd_vl]
   refine ev_yes (by omega) (ev_yes (by omega) ?_)
   rw [rd_nat h1.1, show wrap64 (tot costs w i + vl (rd_L2 costs (i : Int)) (vl w i).toNat) = tot costs w (i + 1) from w64 (by unfold tot at h4; omega) (by unfold tot at h4; omega), wnext (show i < w.length by omega) (by omega)]
   exact ih (i + 1) (by omega)
 exact key w.length 0 (by omega)
end
end Go.Proofs.Ytdhlogncpgaajaa.Ord
namespace Go.Proofs.Ytdhlogncpgaajaa.Ord
set_option linter.unusedVariables false
open Go.RowKit Go.Proofs.YtdhlogncpgaajaaW.PrintWords
theorem ev_some {α : Type} {g : Nat → Option α} {r s : α} (h : Ev g r) (hm : ∀ k, LeO (g k) (g (k + 1))) {k : Nat} (h2 : g k = some s) : r = s := ev_uniq h (Ev.of hm h2)
theorem Ar.op_uniq {P M : Int} {l : List Int} {q : Nat} {E L : List Int} (A B : Ar P M l q E L) : A.op = B.op := by
 have h1 : A.add = B.add := funext fun x => funext fun y => by have := ev_uniq (A.hadd x y) (B.hadd x y); injection this
 have h2 : A.neg = B.neg := funext fun x => by have := ev_uniq (A.hneg x) (B.hneg x); injection this
 have h3 : A.mul = B.mul := funext fun x => funext fun y => by have := (A.hmul x y).symm.trans (B.hmul x y); injection this with this; injection this
 have h4 : A.inv = B.inv := funext fun x => by have := (A.hinv x).symm.trans (B.hinv x); injection this with this; injection this
 have h5 : A.ier = B.ier := funext fun x => by have := (A.hinv x).symm.trans (B.hinv x); injection this with this; injection this with _ this; injection this
 unfold Ar.op
 rw [h1, h2, h3, h4, h5]
theorem FOk.uniq {P M : Int} {l : List Int} {q q' : Nat} {e e' : List Int} (F : FOk P M l q e) (F' : FOk P M l q' e') : q = q' ∧ e = e' := by
 obtain ⟨k, _, h2, h3⟩ := F.rounds
 obtain ⟨k', _, h2', h3'⟩ := F'.rounds
 have e1 : (q : Int) = q' := ev_uniq (Ev.of (fun k => field_order.mono _ _ k) h2) (Ev.of (fun k => field_order.mono _ _ k) h2')
 have e2 : q = q' := by omega
 subst e2
 exact ⟨rfl, ev_uniq (Ev.of (fun k => field_generator.mono _ _ _ _ k) h3) (Ev.of (fun k => field_generator.mono _ _ _ _ k) h3')⟩
theorem FOk.notBad {P M : Int} {l : List Int} {q : Nat} {e : List Int} (F : FOk P M l q e) (B : FBad P M l) : False := by
 obtain ⟨k, h1, h2, h3⟩ := F.rounds
 obtain ⟨k', h | ⟨q', h1', h2', h3'⟩⟩ := B
 ·have := ev_uniq (Ev.of (fun k => field_shape.mono _ _ _ k) h1) (Ev.of (fun k => field_shape.mono _ _ _ k) h)
  cases this
 ·have e1 := ev_uniq (Ev.of (fun k => field_order.mono _ _ k) h2) (Ev.of (fun k => field_order.mono _ _ k) h2')
  rw [← e1] at h3'
  exact F.ne (ev_uniq (Ev.of (fun k => field_generator.mono _ _ _ _ k) h3) (Ev.of (fun k => field_generator.mono _ _ _ _ k) h3'))
theorem few_ev (P M : Int) (l : List Int) (N : Int) (rows : List (List Int)) (hr : ∀ r ∈ rows, r.length ≤ 9223372036854775807) (hl : rows.length ≤ 9223372036854775807) : ∃ b, Ev (fun k => codewrightlaw42_few.f k P M l N rows) b := by
 have inner : ∀ (d i : Nat), i + d = rows.length → ∀ x : Int, ∃ b, Ev (fun k => codewrightref09_Few.l0 k x (i : Int) 0 rows) b := by
  intro d
  induction d with
  | zero =>
   intro i hi x
   exact ⟨true, Ev.step (fun k => codewrightref09_Few.l0.eq_2 ..) (ev_no (by omega) (Ev.now _))⟩
  | succ d ih =>
   intro i hi x
   by_cases h : ((rd_L2 rows (i : Int)).length : Int) > x
   ·exact ⟨false, Ev.step (fun k => codewrightref09_Few.l0.eq_2 ..) (ev_yes (by omega) (ev_yes (by omega) (ev_yes h (Ev.now _))))⟩
   ·obtain ⟨b, hb⟩ := ih (i + 1) (by omega) (wrap64 (x - ((rd_L2 rows (i : Int)).length : Int)))
    refine ⟨b, Ev.step (fun k => codewrightref09_Few.l0.eq_2 ..) (ev_yes (by omega) (ev_yes (by omega) (ev_no h ?_)))⟩
    rw [wnext (show i < rows.length by omega) hl]
    exact hb
 have hj : ∀ b : Bool, ∃ c, Ev (fun k => codewrightref09_Few.j0 k 4200 b 0 rows) c := by
  intro b
  cases b with
  | true => exact ⟨false, Ev.step (fun k => codewrightref09_Few.j0.eq_2 ..) (ev_yes rfl (Ev.now _))⟩
  | false =>
   obtain ⟨c, hc⟩ := inner rows.length 0 (by omega) (wrap64 (4200 - (rows.length : Int)))
   exact ⟨c, Ev.step (fun k => codewrightref09_Few.j0.eq_2 ..) (ev_no (by simp) (by simpa using hc))⟩
 unfold codewrightlaw42_few.f codewrightref12_Few.f codewrightref09_Few.f
 by_cases h : (rows.length : Int) ≤ 64
 ·obtain ⟨c, hc⟩ := hj (decide ((rows.length : Int) > 4200))
  exact ⟨c, ev_yes h (Ev.bind (Ev.bind (ev_no (by omega) hc) (Ev.now _)) (Ev.now _))⟩
 ·exact ⟨false, ev_no h (Ev.now _)⟩
theorem Cost_get {P M : Int} {l : List Int} {N : Int} {rows costs : List (List Int)} {word : List Int} (h : ∃ r : Int × Int, CostIs P M l N rows costs word r.1 r.2) : ∃ r1 r2, ordered_Cost.f P M l N rows costs word = some (r1, r2) ∧ CostIs P M l N rows costs word r1 r2 := by
 unfold ordered_Cost.f
 rw [dif_pos h]
 exact ⟨_, _, rfl, h.choose_spec⟩
theorem Hard_get {P M : Int} {l : List Int} {N : Int} {rows costs : List (List Int)} (h : ∃ r : List Int × Int, ∃ z, HardIs P M l N rows costs r.1 z r.2) : ∃ r1 r2 z, ordered_Hard.f P M l N rows costs = some (r1, r2) ∧ HardIs P M l N rows costs r1 z r2 := by
 unfold ordered_Hard.f
 rw [dif_pos h]
 exact ⟨_, _, h.choose_spec.choose, rfl, h.choose_spec.choose_spec⟩
theorem Reliability_get {P M : Int} {l : List Int} {N : Int} {rows costs : List (List Int)} (h : ∃ r : List Int × Int, ∃ z, HardIs P M l N rows costs z r.1 r.2) : ∃ r1 r2 z, ordered_Reliability.f P M l N rows costs = some (r1, r2) ∧ HardIs P M l N rows costs z r1 r2 := by
 unfold ordered_Reliability.f
 rw [dif_pos h]
 exact ⟨_, _, h.choose_spec.choose, rfl, h.choose_spec.choose_spec⟩
theorem codeR_zero {o : Op4} {N : Int} {rows : List (List Int)} {q : Nat} (h : codeR o N rows q = 0) : 1 ≤ N ∧ N ≤ 64 ∧ spcR o N rows q = 0 := by
 unfold codeR at h
 split at h
 ·omega
 ·exact ⟨by omega, by omega, h⟩
theorem ordR_zero {o : Op4} {N : Int} {rows costs : List (List Int)} {q : Nat} (h : ordR o N rows costs q = 0) : codeR o N rows q = 0 ∧ 1 ≤ N ∧ N ≤ 64 ∧ (costs.length : Int) = N ∧ CostOk q costs := by
 unfold ordR at h
 by_cases h1 : codeR o N rows q = 0
 ·rw [if_neg (by simpa using h1)] at h
  by_cases h2 : (costs.length : Int) = N
  ·rw [if_neg (by simpa using h2)] at h
   obtain ⟨a, b, c⟩ := codeR_zero h1
   exact ⟨h1, a, b, h2, costR_ok h⟩
  ·rw [if_pos h2] at h
   omega
 ·rw [if_pos h1] at h
  exact absurd h h1
theorem wordR_zero {q : Nat} {N : Int} {v : List Int} (h : wordR q N v = 0) : (v.length : Int) = N ∧ ∀ j, j < v.length → 0 ≤ vl v j ∧ vl v j < (q : Int) := by
 unfold wordR at h
 split at h
 ·rename_i h1
  split at h
  ·rename_i h2
   refine ⟨h1, fun j hj => ?_⟩
   have := List.all_eq_true.1 h2 (vl v j) (by
    have : vl v j = v[j] := by simp [vl, List.getD_eq_getElem?_getD, hj]
    rw [this]; exact List.getElem_mem hj)
   simpa using this
  ·omega
 ·omega
section
variable (P M : Int) (l : List Int) (N : Int) (rows costs : List (List Int)) (word : List Int)
theorem OrderedCosts_ev (hrl : rows.length ≤ 9223372036854775807) (hr : ∀ r ∈ rows, r.length ≤ 9223372036854775807) (hcl : costs.length ≤ 9223372036854775807) (hcr : ∀ r ∈ costs, r.length ≤ 9223372036854775807) (hw : word.length ≤ 9223372036854775807) :
  Ev (fun k => codewrightlaw42_OrderedCosts.f k P M l N rows costs word) true := by
 unfold codewrightlaw42_OrderedCosts.f
 obtain ⟨b, hb⟩ := few_ev P M l N rows hr hrl
 refine Ev.bind hb ?_
 cases b with
 | false => exact ev_no (by simp) (Ev.now _)
 | true =>
 refine ev_yes rfl ?_
 rcases field_cases P M l with ⟨F, hc⟩ | ⟨q, e, F, hc, h2, hord, his, A, B, hAB⟩
 ·obtain ⟨r1, r2, hcost, hI⟩ := Cost_get (P := P) (M := M) (l := l) (N := N) (rows := rows) (costs := costs) (word := word) ⟨(0, 1), .inl ⟨F, rfl, rfl⟩⟩
  obtain ⟨s1, s2, z, hhard, hH⟩ := Hard_get (P := P) (M := M) (l := l) (N := N) (rows := rows) (costs := costs) ⟨([], 1), [], .inl ⟨F, rfl, rfl, rfl⟩⟩
  obtain ⟨t1, t2, z2, hrel, hL⟩ := Reliability_get (P := P) (M := M) (l := l) (N := N) (rows := rows) (costs := costs) ⟨([], 1), [], .inl ⟨F, rfl, rfl, rfl⟩⟩
  rcases hI with ⟨_, rfl, rfl⟩ | ⟨_, _, F', _⟩
  rotate_left
  ·exact (F'.notBad F).elim
  rcases hH with ⟨_, rfl, rfl, rfl⟩ | ⟨_, _, F', _⟩
  rotate_left
  ·exact (F'.notBad F).elim
  rcases hL with ⟨_, rfl, rfl, rfl⟩ | ⟨_, _, F', _⟩
  rotate_left
  ·exact (F'.notBad F).elim
  refine ev_let hcost (ev_let hhard (ev_let hrel (Ev.bind (a := (1 : Int)) ?_ ?_)))
  ·unfold codewrightref42_Check.f codewrightref12_Check.f
   exact Ev.bind (Ev.bind hc (ev_no (by omega) (Ev.now _))) (ev_no (by omega) (Ev.now _))
  ·exact ev_no (by omega) (ev_yes rfl (ev_yes rfl (ev_yes rfl (ev_yes rfl (ev_const (by show some (wrap64 ((0 : Int) + 0) == 0) = some true; rw [w64 (by omega) (by omega)]; rfl))))))
 ·have h256 := F.q256
  have hchk := rcheck42_ev his hc B hord N rows costs hr hcl hcr
  rw [← ordR_agree hAB (by omega) N rows costs] at hchk
  obtain ⟨z, hz⟩ : ∃ z, z = ordR A.op N rows costs q := ⟨_, rfl⟩
  have hopA : ∀ {e' : List Int} (he : e = e') (A' : Ar P M l q e' (lgs q e' e'.length)), A'.op = A.op := fun he A' => by
   subst he
   exact Ar.op_uniq A' A
  by_cases hz0 : z = 0
  ·obtain ⟨hco, hN1, hN64, hcl2, hCO⟩ := ordR_zero (hz.symm.trans hz0)
   have hhe := hard_ev (by omega) h256 hCO (by omega)
   obtain ⟨kh, hkh⟩ := hhe.rounds
   obtain ⟨s1, s2, w1, hhard, hH⟩ := Hard_get (P := P) (M := M) (l := l) (N := N) (rows := rows) (costs := costs) ⟨(hardL costs, 0), relL costs, .inr ⟨q, e, F, A, .inr ⟨hz.symm.trans hz0, rfl, kh, hkh⟩⟩⟩
   obtain ⟨t1, t2, w2, hrel, hL⟩ := Reliability_get (P := P) (M := M) (l := l) (N := N) (rows := rows) (costs := costs) ⟨(relL costs, 0), hardL costs, .inr ⟨q, e, F, A, .inr ⟨hz.symm.trans hz0, rfl, kh, hkh⟩⟩⟩
   have hH2 : s1 = hardL costs ∧ s2 = 0 := by
    rcases hH with ⟨F', _⟩ | ⟨q', e', F', A', hh⟩
    ·exact (F.notBad F').elim
    ·obtain ⟨rfl, he⟩ := F.uniq F'
     rw [hopA he A', ← hz] at hh
     rcases hh with ⟨hh, _⟩ | ⟨_, rfl, k', hk'⟩
     ·exact absurd hz0 hh
     ·have := ev_some hhe (fun k => ordered_hard.mono _ k) hk'
      injection this with e1 e2
      exact ⟨e1.symm, rfl⟩
   have hL2 : t1 = relL costs ∧ t2 = 0 := by
    rcases hL with ⟨F', _⟩ | ⟨q', e', F', A', hh⟩
    ·exact (F.notBad F').elim
    ·obtain ⟨rfl, he⟩ := F.uniq F'
     rw [hopA he A', ← hz] at hh
     rcases hh with ⟨hh, _⟩ | ⟨_, rfl, k', hk'⟩
     ·exact absurd hz0 hh
     ·have := ev_some hhe (fun k => ordered_hard.mono _ k) hk'
      injection this with e1 e2
      exact ⟨e2.symm, rfl⟩
   obtain ⟨rfl, rfl⟩ := hH2
   obtain ⟨rfl, rfl⟩ := hL2
   have hcost : ∃ r1 r2, ordered_Cost.f P M l N rows costs word = some (r1, r2) ∧ r2 = wordR q N word ∧ (r2 ≠ 0 → r1 = 0) ∧ (r2 = 0 → r1 = tot costs word word.length) := by
    have ex : ∃ r : Int × Int, CostIs P M l N rows costs word r.1 r.2 := by
     by_cases hwd : wordR q N word = 0
     ·obtain ⟨hwl, hwi⟩ := wordR_zero hwd
      obtain ⟨kt, hkt⟩ := (total_ev hCO (by omega) (by omega) hwi).rounds
      exact ⟨(_, 0), .inr ⟨q, e, F, A, .inr (.inr ⟨hz.symm.trans hz0, hwd, rfl, kt, hkt⟩)⟩⟩
     ·exact ⟨(0, wordR q N word), .inr ⟨q, e, F, A, .inr (.inl ⟨hz.symm.trans hz0, hwd, rfl, rfl⟩)⟩⟩
    obtain ⟨r1, r2, h1, hI⟩ := Cost_get ex
    refine ⟨r1, r2, h1, ?_⟩
    rcases hI with ⟨F', _⟩ | ⟨q', e', F', A', hh⟩
    ·exact (F.notBad F').elim
    ·obtain ⟨rfl, he⟩ := F.uniq F'
     rw [hopA he A', ← hz] at hh
     rcases hh with ⟨hh, _⟩ | ⟨_, hh, rfl, rfl⟩ | ⟨_, hwd, rfl, k', hk'⟩
     ·exact absurd hz0 hh
     ·exact ⟨rfl, fun _ => rfl, fun h => absurd h hh⟩
     ·obtain ⟨hwl, hwi⟩ := wordR_zero hwd
      exact ⟨hwd.symm, fun h => absurd rfl h, fun _ => (ev_some (total_ev hCO (by omega) (by omega) hwi) (fun k => ordered_total.mono _ _ k) hk').symm⟩
   obtain ⟨r1, r2, hcost, hr2, hr3, hr4⟩ := hcost
   have hhl : (hardL costs).length ≤ 9223372036854775807 := by simp [hardL]; omega
   have hrl2 : (relL costs).length ≤ 9223372036854775807 := by simp [relL]; omega
   refine ev_let hcost (ev_let hhard (ev_let hrel (Ev.bind hchk ?_)))
   rw [← hz, hz0]
   refine ev_yes rfl (ev_yes rfl (ev_yes rfl (Ev.bind (rhard_ev (by omega) h256 hCO (by omega)) (Ev.bind (sameInts_ev _ _ hhl) (ev_yes (by simp) (Ev.bind (rrel_ev (by omega) h256 hCO (by omega)) (Ev.bind (sameInts_ev _ _ hrl2) ?_)))))))
   refine Ev.step (fun k => codewrightlaw42_OrderedCosts.j0.eq_2 ..) (ev_no (by simp) (Ev.bind (rword_ev his hc B N rows hr word hw) ?_))
   rw [← codeR_agree hAB (by omega), if_pos hco, ← hr2]
   by_cases h0 : r2 = 0
   ·refine ev_yes h0 (ev_yes h0 ?_)
    obtain ⟨hwl, hwi⟩ := wordR_zero (hr2.symm.trans h0)
    refine Ev.bind (rcost_ev hCO (by omega) (by omega) hwi) (ev_const ?_)
    rw [hr4 h0]
    simp
   ·refine ev_no h0 (ev_yes rfl (ev_const ?_))
    rw [hr3 h0]
    rfl
  ·have hzz : ordR A.op N rows costs q ≠ 0 := fun h => hz0 (hz.trans h)
   obtain ⟨r1, r2, hcost, hI⟩ := Cost_get (P := P) (M := M) (l := l) (N := N) (rows := rows) (costs := costs) (word := word) ⟨(0, z), .inr ⟨q, e, F, A, .inl ⟨hzz, rfl, hz⟩⟩⟩
   obtain ⟨s1, s2, w1, hhard, hH⟩ := Hard_get (P := P) (M := M) (l := l) (N := N) (rows := rows) (costs := costs) ⟨([], z), [], .inr ⟨q, e, F, A, .inl ⟨hzz, rfl, rfl, hz⟩⟩⟩
   obtain ⟨t1, t2, w2, hrel, hL⟩ := Reliability_get (P := P) (M := M) (l := l) (N := N) (rows := rows) (costs := costs) ⟨([], z), [], .inr ⟨q, e, F, A, .inl ⟨hzz, rfl, rfl, hz⟩⟩⟩
   have e1 : r1 = 0 ∧ r2 = z := by
    rcases hI with ⟨F', _⟩ | ⟨q', e', F', A', hh⟩
    ·exact (F.notBad F').elim
    ·obtain ⟨rfl, he⟩ := F.uniq F'
     rw [hopA he A', ← hz] at hh
     rcases hh with ⟨_, rfl, rfl⟩ | ⟨hh, _⟩ | ⟨hh, _⟩
     ·exact ⟨rfl, rfl⟩
     ·exact absurd hh hz0
     ·exact absurd hh hz0
   have e2 : s1 = [] ∧ s2 = z := by
    rcases hH with ⟨F', _⟩ | ⟨q', e', F', A', hh⟩
    ·exact (F.notBad F').elim
    ·obtain ⟨rfl, he⟩ := F.uniq F'
     rw [hopA he A', ← hz] at hh
     rcases hh with ⟨_, rfl, _, rfl⟩ | ⟨hh, _⟩
     ·exact ⟨rfl, rfl⟩
     ·exact absurd hh hz0
   have e3 : t1 = [] ∧ t2 = z := by
    rcases hL with ⟨F', _⟩ | ⟨q', e', F', A', hh⟩
    ·exact (F.notBad F').elim
    ·obtain ⟨rfl, he⟩ := F.uniq F'
     rw [hopA he A', ← hz] at hh
     rcases hh with ⟨_, _, rfl, rfl⟩ | ⟨hh, _⟩
     ·exact ⟨rfl, rfl⟩
     ·exact absurd hh hz0
   obtain ⟨rfl, rfl⟩ := e1
   obtain ⟨rfl, rfl⟩ := e2
   obtain ⟨rfl, h3⟩ := e3
   rw [h3] at hrel
   refine ev_let hcost (ev_let hhard (ev_let hrel (Ev.bind hchk ?_)))
   rw [← hz]
   exact ev_no hz0 (ev_yes rfl (ev_yes rfl (ev_yes rfl (ev_yes rfl (ev_const (by show some (wrap64 ((0 : Int) + 0) == 0) = some true; rw [w64 (by omega) (by omega)]; rfl))))))
end
end Go.Proofs.Ytdhlogncpgaajaa.Ord
