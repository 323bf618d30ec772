/- append onto a slice of the call's own, while an elder head of it is still read: the head stays. -/
import Derived.Test.YtnppfagghpjkpaaWMore
import Derived.Maps.AppendAt
namespace Go.Proofs.Ytnppfagghpjkpaa.Num
open Go.RowKit Go.Proofs.YtnppfagghpjkpaaW.PrintWords Go.Proofs.YtnppfagghpjkpaaW.PrintLast Go.Proofs.YtnppfagghpjkpaaW.PrintMore
set_option linter.unusedVariables false

/-- If append made a new row, all old rows stay as they were. -/
theorem append_fresh_kept {P : Program} (w : World) (base : Nat) (t ty e : TypeId) (i : TypeInfo) (z : Value) (size bytes : Nat) (ht : P.underlying t = some (.slice e)) (hi : P.info? e = some i) (hz : i.zero = some z)
    (hsize : i.size = size) (hby : i.bytes = bytes)
    (v : Value) (n : Nat) (xs : List Value) (hown : w.ownsRow base e size v n xs)
    (a : Addr) (c : Nat) (news : List Value) (hl : news.length = 1 * size) (hnews : ∀ j u, news[j]? = some u → w.cell? (a.add j) = some u) (h1 : ∀ u ∈ news, u.oneCell' = true)
    (h63 : n + 1 ≤ maxLen) (hbytes : (n + 1) * bytes ≤ 140737488355328) {v' : Value} {w' : World}
    (hr : (Builtin.append_ #[t, t] ty #[v, .slice (some a) 1 c]).run P w = .ok v' w') (hat : v'.ownBlock = some w.heap.size) : w.grownBy w' none := by
  subst hsize
  subst hby
  have hsmall : n + 1 ≤ 9223372036854775807 := by simp only [maxLen] at h63; omega
  rcases hown.2 with ⟨rfl, rfl⟩ | ⟨g, cap, cur, rfl, hbg, hg, hnc, hcm, hcs, htake⟩
  · have hr2 := run_append_nil (P := P) w t ty e i z ht hi hz a 1 c news hl hnews (by omega) (by omega) (by have hb := hbytes; simp only [Nat.zero_add] at hb; omega)
    rw [hr2] at hr
    injection hr with h1 h2
    subst h2
    exact ⟨rfl, rfl, rfl, by simp, fun k hk _ => heap_alloc_old w.drew _ hk⟩
  · by_cases hroom : n + 1 ≤ cap
    · have hfit : n * i.size + news.length ≤ cur.size := by rw [hl, hcs, ← Nat.add_mul]; exact Nat.mul_le_mul_right _ hroom
      have hr2 := run_append_room (P := P) w t ty e i ht hi g n cap cur hg a 1 c news hl hnews h1 hroom hfit
      rw [hr2] at hr
      injection hr with h1 h2
      subst h1
      have hlt := (Array.getElem?_eq_some_iff.1 hg).1
      simp [Value.ownBlock] at hat
      omega
    · have holds : ∀ j u, xs[j]? = some u → w.cell? ((⟨g, 0, none⟩ : Addr).add j) = some u := hown.cells (g := g) rfl
      have hr2 := run_append_grow (P := P) w t ty e i z ht hi hz ⟨g, 0, none⟩ n cap xs hown.1 holds a 1 c news hl hnews (by omega) (by omega) (growslice_fits (by omega) hbytes)
      rw [hr2] at hr
      injection hr with h1 h2
      subst h2
      exact ⟨rfl, rfl, rfl, by simp, fun k hk _ => heap_alloc_old w.drew _ hk⟩

theorem wpList_append_keep {P : Program} (w : World) {ops : Array Oper} {rest : List Oper} {o : Oper} {a : Act} {Q : Exit → Act → World → Prop} (hgd : o.guard = none) (s x : Operand) (t : TypeId)
    (ho : o.op = .call { callee := .builtin .append, args := #[s, x], argTypes := #[t, t] })
    (base : Nat) (e : TypeId) (i : TypeInfo) (z : Value) (size bytes : Nat) (ht : P.underlying t = some (.slice e)) (hi : P.info? e = some i) (hz : i.zero = some z)
    (hsize : i.size = size) (hby : i.bytes = bytes) (hzs : z.cells.size = size) (hsz : 0 < size)
    (v : Value) (n : Nat) (xs : List Value) (hs : a.eval s = v) (hown : w.ownsRow base e size v n xs)
    (ad : Addr) (c : Nat) (news : List Value) (hx : a.eval x = .slice (some ad) 1 c) (hl : news.length = 1 * size) (hnews : ∀ j u, news[j]? = some u → w.cell? (ad.add j) = some u) (h1 : ∀ u ∈ news, u.oneCell' = true)
    (h63 : n + 1 ≤ maxLen) (hbytes : (n + 1) * bytes ≤ 140737488355328) (hbase : base ≤ w.heap.size)
    (h : ∀ v' w', w'.ownsRow base e size v' (n + 1) (xs ++ news) → w.grownBy w' v.ownBlock → (v'.ownBlock = v.ownBlock ∨ (v'.ownBlock = some w.heap.size ∧ w.grownBy w' none)) → wpList P ops Q rest (a.put o.dst v') w') :
    wpList P ops Q (o :: rest) a w := by
  refine wpList_plain hgd fun K hK => ?_
  obtain ⟨v', w', hr, h2, h3, h4, h5⟩ := run_append_own_at (P := P) w base t o.type e i z size bytes ht hi hz hsize hby hzs hsz v n xs hown ad 1 c news hl hnews h1 h63 hbytes hbase
  have h6 : v'.ownBlock = v.ownBlock ∨ (v'.ownBlock = some w.heap.size ∧ w.grownBy w' none) := by
    rcases h5 with h5 | h5
    · exact .inl h5
    · exact .inr ⟨h5, append_fresh_kept w base t o.type e i z size bytes ht hi hz hsize hby v n xs hown ad c news hl hnews h1 h63 hbytes hr h5⟩
  unfold Oper.wp execOp
  simp only [ho, resolve, invoke, builtin, Sem.run_bind, Sem.run_pure, Result.andThen_ok, List.map_toArray, List.map_cons, List.map_nil, hs, hx, hr]
  exact hK _ _ (h v' w' h2 h3 h6)

/-- ys is an elder head of what v holds, or lies in a row that is no longer v's. -/
def Head (w : World) (v : Value) (xs : List Int) (A : Option Addr) (ys : List Int) : Prop :=
  (Kd.int .i64).C w A ys.length ys ∧ ∀ ad, A = some ad → ad.block < w.heap.size ∧ (v.ownBlock = some ad.block → ad = ⟨ad.block, 0, none⟩ ∧ ∃ zs, xs = ys ++ zs)

theorem Head.below {w w1 : World} {v : Value} {xs ys : List Int} {A : Option Addr} (h : Head w v xs A ys) (hb : Below w.heap.size w w1) : Head w1 v xs A ys :=
  ⟨Kd.C_below h.1 hb, fun ad e => ⟨Nat.lt_of_lt_of_le (h.2 ad e).1 (below_size hb), (h.2 ad e).2⟩⟩
theorem Head.alloc {w : World} {v : Value} {xs ys : List Int} {A : Option Addr} (h : Head w v xs A ys) (o : Obj) : Head (w.alloc o) v xs A ys := h.below (below_alloc (Below.refl _ _) o)
theorem Head.drew {w : World} {v : Value} {xs ys : List Int} {A : Option Addr} (h : Head w v xs A ys) : Head w.drew v xs A ys := h.below (below_drew (Below.refl _ _))
theorem Head.drewN {w : World} {v : Value} {xs ys : List Int} {A : Option Addr} (h : Head w v xs A ys) (m : Nat) : Head (w.drewN m) v xs A ys := h.below (pw_below_drewN (Below.refl _ _) m)
theorem Head.start {w : World} {base : Nat} {ok : Nat → Prop} {A : Option Addr} {n c m : Nat} {xs ys : List Int} {e : Nat} (h : Kd.R (Kd.int .i64) e w base ok (.slice A n c) xs) (hm : m ≤ xs.length) (hy : ys = xs.take m) : Head w (.slice A n c) xs A ys := by
  subst hy
  refine ⟨Kd.C_take (Kd.R_reads' h).2.2 hm, fun ad e => ?_⟩
  subst e
  have hlt := Kd.R_lt h ad.block rfl
  obtain ⟨inner, ho⟩ := Kd.R_own h
  rcases ho.2 with ⟨h1, _⟩ | ⟨g, cap, cur, h1, _⟩
  · exact absurd h1 (by simp)
  · refine ⟨hlt, fun _ => ⟨?_, xs.drop m, (List.take_append_drop m xs).symm⟩⟩
    injection h1 with h1
    injection h1 with h1
    rw [h1]
theorem addr_block (a : Addr) (n : Nat) : (a.add n).block = a.block := by unfold Addr.add; split <;> rfl
/-- The head's cells, if its block stayed. -/
theorem C_kept {w w1 : World} {A : Option Addr} {ys : List Int} (h : (Kd.int .i64).C w A ys.length ys) (hk : ∀ ad, A = some ad → w1.heap[ad.block]? = w.heap[ad.block]?) : (Kd.int .i64).C w1 A ys.length ys := by
  refine ⟨h.1, h.2.1, fun hn => ?_⟩
  obtain ⟨ad, e, hc⟩ := h.2.2 hn
  refine ⟨ad, e, fun j p hj => ?_⟩
  obtain ⟨c, h1, h2, h3⟩ := hc j p hj
  refine ⟨c, h1, h2, fun i u hu => ?_⟩
  have := h3 i u hu
  rw [← this]
  exact World.cell?_of_block (by rw [addr_block]; exact hk ad e)

section
variable {P : Program} {ops : Array Oper} {rest : List Oper} {o : Oper} {a : Act} {Q : Exit → Act → World → Prop}
theorem R_append_head {w0 W : World} (base : Nat) (hgd : o.guard = none) (s x : Operand) (t e : TypeId) (z : Value) (bytes : Nat)
    (ho : o.op = .call { callee := .builtin .append, args := #[s, x], argTypes := #[t, t] })
    (ht : P.underlying t = some (.slice e)) (hinfo : (P.info? e).map (fun i => (i.zero, i.size, i.bytes)) = some (some z, (Kd.int .i64).sz, bytes)) (hz : z.cells.size = (Kd.int .i64).sz) (hs0 : 0 < (Kd.int .i64).sz) (hb0 : 0 < bytes)
    (v : Value) (xs : List Int) (p : Int) (cs : List Value) (ok okp : Nat → Prop) (hs : a.eval s = v) (hx : a.eval x = .slice (some ⟨W.heap.size, 0, none⟩) 1 1) (hp : (Kd.int .i64).M W base okp p cs) (hokp : ∀ k, okp k → ok k ∧ some k ≠ v.ownBlock) (hfresh : ∀ k, W.heap.size ≤ k → ok k)
    (HO : Kd.R (Kd.int .i64) e W base ok v xs) (HB : Below base w0 W) (hbase : base ≤ W.heap.size) (hl : (xs.length + 1) * bytes ≤ 140737488355328)
    {A : Option Addr} {ys : List Int} (HH : Head W v xs A ys)
    (h : ∀ v1 w1, Kd.R (Kd.int .i64) e w1 base ok v1 (xs ++ [p]) → Below base w0 w1 → W.grownBy w1 v.ownBlock → (v1.ownBlock = v.ownBlock ∨ ∃ b, v1.ownBlock = some b ∧ W.heap.size ≤ b) → Head w1 v1 (xs ++ [p]) A ys → wpList P ops Q rest (a.put o.dst v1) w1) :
    wpList P ops Q (o :: rest) a (W.alloc (.cells cs.toArray e)) := by
  obtain ⟨h0, inner, hown, hr⟩ := HO
  obtain ⟨i0, hi, hzz⟩ := Option.map_eq_some_iff.1 hinfo
  simp only [Prod.mk.injEq] at hzz
  obtain ⟨hz0, hz1, hz2⟩ := hzz
  have hlen : xs.length + 1 ≤ 140737488355328 := Nat.le_trans (Nat.le_mul_of_pos_right _ hb0) hl
  have hys := (Kd.int .i64).K_len ((Kd.int .i64).K_of_M hp)
  refine wpList_append_keep (W.alloc (.cells cs.toArray e)) hgd s x t ho base e i0 z _ bytes ht hi hz0 hz1 hz2 hz hs0 v xs.length inner hs (hown.alloc _) ⟨W.heap.size, 0, none⟩ 1 cs hx (by rw [hys]; simp)
    (by simpa using World.news_of_block (cs := cs.toArray) (t := e) (fr := (0, 0)) (heap_alloc_new W (.cells cs.toArray e))) ((Kd.int .i64).K_one ((Kd.int .i64).K_of_M hp)) (by simp only [maxLen]; omega) hl (by simp; omega) ?_
  intro v1 w1 hown1 hg hat
  have hg1 : W.grownBy w1 v.ownBlock := World.grownBy.trans (World.grownBy_alloc W _ _) hg
  have hat1 : v1.ownBlock = v.ownBlock ∨ ∃ b, v1.ownBlock = some b ∧ W.heap.size ≤ b := by
    rcases hat with hat | ⟨hat, _⟩
    · exact .inl hat
    · exact .inr ⟨_, hat, by simp⟩
  have hR := Kd.R_appended h0 hr hp hokp hfresh hown1 hg1 hat1
  refine h v1 w1 hR ((HB.alloc hbase _).grown hg (by simp; omega) (own_base hown)) hg1 hat1 ?_
  obtain ⟨H1, H2⟩ := HH
  rcases hat with hat | ⟨hat, hg0⟩
  · refine ⟨?_, fun ad e => ⟨Nat.lt_of_lt_of_le (H2 ad e).1 hg1.size, fun hb => ?_⟩⟩
    · cases A with
      | none => exact C_kept H1 (fun ad e => by cases e)
      | some ad =>
        by_cases hb : v.ownBlock = some ad.block
        · obtain ⟨k1, zs, k2⟩ := (H2 ad rfl).2 hb
          obtain ⟨A1, c1, e1⟩ := Kd.R_slice hR
          have hA1 : A1 = some ad := by
            rcases hown1.2 with ⟨e2, _⟩ | ⟨g, cap, cur, e2, _⟩
            · rw [hb, e2] at hat; simp [Value.ownBlock] at hat
            · rw [e2] at e1
              injection e1 with e1
              rw [hb, e2] at hat
              simp [Value.ownBlock] at hat
              rw [← e1, k1, hat]
          subst hA1
          subst e1
          have hC := Kd.C_take (m := ys.length) (Kd.R_reads' hR).2.2 (by rw [k2]; simp)
          have hT : (xs ++ [p]).take ys.length = ys := by rw [k2]; simp
          rw [hT] at hC
          exact hC
        · exact C_kept H1 (fun ad' e => by
            cases e
            exact hg1.block _ (H2 ad rfl).1 (fun hc => hb hc.symm))
    · rw [hat] at hb
      obtain ⟨k1, zs, k2⟩ := (H2 ad e).2 hb
      exact ⟨k1, zs ++ [p], by rw [k2]; simp⟩
  · refine ⟨C_kept H1 (fun ad e => ?_), fun ad e => ⟨Nat.lt_of_lt_of_le (H2 ad e).1 hg1.size, fun hb => ?_⟩⟩
    · exact (World.grownBy.trans (World.grownBy_alloc W _ none) hg0).block _ (H2 ad e).1 (by simp)
    · rw [hat] at hb
      injection hb with hb
      have := (H2 ad e).1
      simp at hb
      omega
end
end Go.Proofs.Ytnppfagghpjkpaa.Num
