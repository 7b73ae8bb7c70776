/- The letters of Vietnamese as plain data, and how memory tells them. -/
import Derived.Test.YtgbajkdomcmblaaVc
namespace Go.Proofs.Ytgbajkdomcmblaa
open Go Go.RowKit Vc
structure VRow where
  (b m s0 s1 s2 s3 s4 s5 : Int)
def VRow.cells (x : VRow) : List Value := [.int .i64 x.b, .int .i64 x.m, .int .i64 x.s0, .int .i64 x.s1, .int .i64 x.s2, .int .i64 x.s3, .int .i64 x.s4, .int .i64 x.s5]
def VRow.sc (x : VRow) : Nat → Int
  | 0 => x.s0 | 1 => x.s1 | 2 => x.s2 | 3 => x.s3 | 4 => x.s4 | 5 => x.s5 | _ => 0
def vietRows : List VRow := [⟨97, 0, 97, 224, 225, 7843, 227, 7841⟩, ⟨97, 1, 259, 7857, 7855, 7859, 7861, 7863⟩, ⟨97, 2, 226, 7847, 7845, 7849, 7851, 7853⟩, ⟨101, 0, 101, 232, 233, 7867, 7869, 7865⟩, ⟨101, 2, 234, 7873, 7871, 7875, 7877, 7879⟩, ⟨105, 0, 105, 236, 237, 7881, 297, 7883⟩, ⟨111, 0, 111, 242, 243, 7887, 245, 7885⟩, ⟨111, 2, 244, 7891, 7889, 7893, 7895, 7897⟩, ⟨111, 3, 417, 7901, 7899, 7903, 7905, 7907⟩, ⟨117, 0, 117, 249, 250, 7911, 361, 7909⟩, ⟨117, 3, 432, 7915, 7913, 7917, 7919, 7921⟩, ⟨121, 0, 121, 7923, 253, 7927, 7929, 7925⟩, ⟨100, 0, 100, 0, 0, 0, 0, 0⟩, ⟨100, 4, 273, 0, 0, 0, 0, 0⟩]
def VRowR : ER VRow := fun _ _ cs x => cs = x.cells
instance : Stable VRowR := ⟨fun h _ => h, fun h u hu => by rw [h] at hu; simp [VRow.cells] at hu; rcases hu with rfl | rfl | rfl | rfl | rfl | rfl | rfl | rfl <;> rfl⟩
theorem VRow.idx (x : VRow) {k : Nat} (hk : k < 6) : (#[.int .i64 x.s0, .int .i64 x.s1, .int .i64 x.s2, .int .i64 x.s3, .int .i64 x.s4, .int .i64 x.s5] : Array Value)[k]? = some (.int .i64 (x.sc k)) := by
  match k, hk with
  | 0, _ => rfl | 1, _ => rfl | 2, _ => rfl | 3, _ => rfl | 4, _ => rfl | 5, _ => rfl
def VRow.okB (x : VRow) : Bool := decide (97 ≤ x.b) && decide (x.b ≤ 121) && decide (0 ≤ x.m) && decide (x.m ≤ 4) && (List.range 6).all fun k => x.sc k == 0 || (decide (97 ≤ x.sc k) && decide (x.sc k ≤ 9000))
theorem vietRows_ok : vietRows.all VRow.okB = true := by decide
theorem vrow_ok {j : Nat} (hj : j < vietRows.length) : 97 ≤ vietRows[j].b ∧ vietRows[j].b ≤ 121 ∧ 0 ≤ vietRows[j].m ∧ vietRows[j].m ≤ 4 ∧ ∀ k, k < 6 → vietRows[j].sc k = 0 ∨ (97 ≤ vietRows[j].sc k ∧ vietRows[j].sc k ≤ 9000) := by
  have h := List.all_eq_true.1 vietRows_ok vietRows[j] (List.getElem_mem hj)
  simp only [VRow.okB, Bool.and_eq_true, decide_eq_true_eq, List.all_eq_true, List.mem_range, Bool.or_eq_true, beq_iff_eq] at h
  obtain ⟨⟨⟨⟨h1, h2⟩, h3⟩, h4⟩, h5⟩ := h
  exact ⟨h1, h2, h3, h4, h5⟩
/-- A letter: its base, and the bits of its mark and its tone. -/
structure Lt where
  b : Int
  re : Nat
  im : Nat
def Lt.cells (x : Lt) : List Value := [.int .i64 x.b, .complex .f64 x.re x.im]
def LtR : ER Lt := fun _ _ cs x => cs = x.cells
instance : Stable LtR := ⟨fun h _ => h, fun h u hu => by rw [h] at hu; simp [Lt.cells] at hu; rcases hu with rfl | rfl <;> rfl⟩
def upperI (s : Int) : Int := if s < 256 then s - 32 else s - 1
def lets (up : Bool) (r : VRow) (t : Nat) : List (Lt × Int) := if r.sc t = 0 then [] else [(⟨if up then upperI r.b else r.b, fb r.m, fb t⟩, if up then upperI (r.sc t) else r.sc t)]
def rowLets (up : Bool) (r : VRow) (n : Nat) : List (Lt × Int) := (List.range n).flatMap (lets up r)
def rowsLets (up : Bool) (n : Nat) : List (Lt × Int) := (vietRows.take n).flatMap fun r => rowLets up r 6
def upsLets (n : Nat) : List (Lt × Int) := ([false, true].take n).flatMap fun up => rowsLets up 14
def vietAll : List (Lt × Int) := upsLets 2
theorem flatMap_le {α β : Type} (f : α → List β) (c : Nat) : ∀ l : List α, (∀ x ∈ l, (f x).length ≤ c) → (l.flatMap f).length ≤ l.length * c
  | [], _ => by simp
  | x :: r, h => by
    have h1 := h x (by simp)
    have h2 := flatMap_le f c r fun y hy => h y (by simp [hy])
    simp only [List.flatMap_cons, List.length_append, List.length_cons, Nat.add_mul]
    omega
theorem lets_len (up : Bool) (r : VRow) (t : Nat) : (lets up r t).length ≤ 1 := by unfold lets; split <;> simp
theorem rowLets_len (up : Bool) (r : VRow) (n : Nat) : (rowLets up r n).length ≤ n := by
  have := flatMap_le (lets up r) 1 (List.range n) fun t _ => lets_len up r t
  simpa [rowLets] using this
theorem rowsLets_len (up : Bool) (n : Nat) : (rowsLets up n).length ≤ 84 := by
  have := flatMap_le (fun r => rowLets up r 6) 6 (vietRows.take n) fun r _ => rowLets_len up r 6
  have h2 : (vietRows.take n).length ≤ 14 := by have : vietRows.length = 14 := rfl; simp; omega
  simp only [rowsLets]
  omega
theorem upsLets_len (n : Nat) : (upsLets n).length ≤ 168 := by
  have := flatMap_le (fun up => rowsLets up 14) 84 ([false, true].take n) fun up _ => rowsLets_len up 14
  have h2 : ([false, true].take n).length ≤ 2 := by simp; omega
  simp only [upsLets]
  omega
theorem upperI_range {a : Int} (h0 : 97 ≤ a) (h1 : a ≤ 9000) : 0 ≤ upperI a ∧ upperI a ≤ 9000 := by unfold upperI; split <;> omega
theorem rowLets_zero (up : Bool) (r : VRow) : rowLets up r 0 = [] := rfl
theorem rowLets_skip {up : Bool} {r : VRow} {t : Nat} (h : r.sc t = 0) : rowLets up r (t + 1) = rowLets up r t := by simp [rowLets, List.range_succ, lets, h]
theorem rowLets_succ {up : Bool} {r : VRow} {t : Nat} (h : r.sc t ≠ 0) : rowLets up r (t + 1) = rowLets up r t ++ [(⟨if up then upperI r.b else r.b, fb r.m, fb t⟩, if up then upperI (r.sc t) else r.sc t)] := by
  simp [rowLets, List.range_succ, lets, h]
theorem rowsLets_succ (up : Bool) {j : Nat} (h : j < vietRows.length) : rowsLets up (j + 1) = rowsLets up j ++ rowLets up vietRows[j] 6 := by
  simp only [rowsLets]
  rw [List.take_succ_eq_append_getElem h]
  simp only [List.flatMap_append, List.flatMap_cons, List.flatMap_nil, List.append_nil]
theorem upsLets_succ {i : Nat} (h : i < 2) : upsLets (i + 1) = upsLets i ++ rowsLets ([false, true][i]'h) 14 := by
  simp only [upsLets]
  rw [List.take_succ_eq_append_getElem (show i < [false, true].length from h)]
  simp only [List.flatMap_append, List.flatMap_cons, List.flatMap_nil, List.append_nil]

/-- A row as the law tells it. -/
structure LRow where
  b : Int
  m : Int
  xs : List Int
def LRowR : ER LRow := fun w M cs x => ∃ v, cs = [.int .i64 x.b, .int .i64 x.m, v] ∧ Sl IntR 1 w M v x.xs
instance : Stable LRowR := ⟨fun ⟨v, h, hs⟩ u => ⟨v, h, hs.up u⟩, fun ⟨v, h, hs⟩ u hu => by rw [h] at hu; simp at hu; rcases hu with rfl | rfl | rfl <;> first | rfl | exact hs.one⟩
def lawRows : List LRow := [⟨97, 0, [97, 224, 225, 7843, 227, 7841]⟩, ⟨97, 1, [259, 7857, 7855, 7859, 7861, 7863]⟩, ⟨97, 2, [226, 7847, 7845, 7849, 7851, 7853]⟩, ⟨101, 0, [101, 232, 233, 7867, 7869, 7865]⟩, ⟨101, 2, [234, 7873, 7871, 7875, 7877, 7879]⟩, ⟨105, 0, [105, 236, 237, 7881, 297, 7883]⟩, ⟨111, 0, [111, 242, 243, 7887, 245, 7885]⟩, ⟨111, 2, [244, 7891, 7889, 7893, 7895, 7897]⟩, ⟨111, 3, [417, 7901, 7899, 7903, 7905, 7907]⟩, ⟨117, 0, [117, 249, 250, 7911, 361, 7909]⟩, ⟨117, 3, [432, 7915, 7913, 7917, 7919, 7921]⟩, ⟨121, 0, [121, 7923, 253, 7927, 7929, 7925]⟩, ⟨100, 0, [100]⟩, ⟨100, 4, [273]⟩]
def rpos (j : Nat) : Nat := if j ≤ 12 then 6 * j else 72 + (j - 12)
def lposB : Bool := (List.range 2).all fun i => (List.range 14).all fun j => match lawRows[j]? with
  | none => false
  | some r => rpos (j + 1) == rpos j + r.xs.length && decide (97 ≤ r.b) && decide (r.b ≤ 121) && decide (0 ≤ r.m) && decide (r.m ≤ 4) && (List.range r.xs.length).all fun t => match vietAll[74 * i + rpos j + t]?, r.xs[t]? with
    | some q, some x => q.1.b == (if i = 1 then upperI r.b else r.b) && q.1.re == fb r.m && q.1.im == fb t && q.2 == (if i = 1 then upperI x else x) && decide (97 ≤ x) && decide (x ≤ 9000)
    | _, _ => false
theorem lpos_ok : lposB = true := by kernel_rfl
theorem lrow_ok {j : Nat} (hj : j < lawRows.length) : rpos (j + 1) = rpos j + lawRows[j].xs.length ∧ 97 ≤ lawRows[j].b ∧ lawRows[j].b ≤ 121 ∧ 0 ≤ lawRows[j].m ∧ lawRows[j].m ≤ 4 := by
  have h := List.all_eq_true.1 (List.all_eq_true.1 lpos_ok 0 (by simp)) j (by have : lawRows.length = 14 := rfl; simp; omega)
  rw [List.getElem?_eq_getElem hj] at h
  simp only [Bool.and_eq_true, beq_iff_eq, decide_eq_true_eq] at h
  exact ⟨h.1.1.1.1.1, h.1.1.1.1.2, h.1.1.1.2, h.1.1.2, h.1.2⟩
theorem llet_ok {i j t : Nat} (hi : i < 2) (hj : j < lawRows.length) (ht : t < lawRows[j].xs.length) : 97 ≤ lawRows[j].xs[t] ∧ lawRows[j].xs[t] ≤ 9000 ∧
    vietAll[74 * i + rpos j + t]? = some (⟨if i = 1 then upperI lawRows[j].b else lawRows[j].b, fb lawRows[j].m, fb t⟩, if i = 1 then upperI lawRows[j].xs[t] else lawRows[j].xs[t]) := by
  have h := List.all_eq_true.1 (List.all_eq_true.1 lpos_ok i (by simp; omega)) j (by have : lawRows.length = 14 := rfl; simp; omega)
  rw [List.getElem?_eq_getElem hj] at h
  simp only [Bool.and_eq_true] at h
  have h2 := List.all_eq_true.1 h.2 t (by simpa using ht)
  rw [List.getElem?_eq_getElem ht] at h2
  revert h2
  cases vietAll[74 * i + rpos j + t]? with
  | none => intro h2; simp at h2
  | some q =>
    obtain ⟨⟨b, re, im⟩, s⟩ := q
    intro h2
    simp only [Bool.and_eq_true, beq_iff_eq, decide_eq_true_eq] at h2
    obtain ⟨⟨⟨⟨⟨h3, h4⟩, h5⟩, h6⟩, h7⟩, h8⟩ := h2
    subst h3; subst h4; subst h5; subst h6
    exact ⟨h7, h8, rfl⟩
theorem vietAll_len : vietAll.length = 148 := by kernel_rfl
def vietB : Bool := vietAll.all fun q => decide (0 ≤ q.1.b) && decide (q.1.b ≤ 9000) && decide (0 ≤ q.2) && decide (q.2 ≤ 9000) && fe q.1.re q.1.re && fe q.1.im q.1.im
theorem vietB_ok : vietB = true := by kernel_rfl
theorem viet_ok {j : Nat} (hj : j < vietAll.length) : 0 ≤ vietAll[j].1.b ∧ vietAll[j].1.b ≤ 9000 ∧ 0 ≤ vietAll[j].2 ∧ vietAll[j].2 ≤ 9000 ∧ fe vietAll[j].1.re vietAll[j].1.re = true ∧ fe vietAll[j].1.im vietAll[j].1.im = true := by
  have h := List.all_eq_true.1 vietB_ok vietAll[j] (List.getElem_mem hj)
  simp only [Bool.and_eq_true, decide_eq_true_eq] at h
  obtain ⟨⟨⟨⟨⟨h1, h2⟩, h3⟩, h4⟩, h5⟩, h6⟩ := h
  exact ⟨h1, h2, h3, h4, h5, h6⟩
def upperB : Bool := (List.range 74).all fun i => match vietAll[i]?, vietAll[74 + i]? with
  | some q, some r => upperI q.1.b == r.1.b && (fe q.1.re r.1.re && fe q.1.im r.1.im) && upperI q.2 == r.2
  | _, _ => false
theorem upperB_ok : upperB = true := by kernel_rfl
theorem viet_upper {i : Nat} (h1 : i < vietAll.length) (h2 : 74 + i < vietAll.length) : upperI vietAll[i].1.b = vietAll[74 + i].1.b ∧ (fe vietAll[i].1.re vietAll[74 + i].1.re && fe vietAll[i].1.im vietAll[74 + i].1.im) = true ∧ upperI vietAll[i].2 = vietAll[74 + i].2 := by
  have h := List.all_eq_true.1 upperB_ok i (by have := vietAll_len; simp; omega)
  rw [List.getElem?_eq_getElem h1, List.getElem?_eq_getElem h2] at h
  simp only [Bool.and_eq_true, beq_iff_eq] at h
  exact ⟨h.1.1, by simpa using h.1.2, h.2⟩
/-! The searches. -/
def splitP (a : Int) (q : Lt × Int) : Bool := decide (q.2 = a)
def joinP (b : Int) (re im : Nat) (q : Lt × Int) : Bool := decide (q.1.b = b) && (fe q.1.re re && fe q.1.im im)
def splitV : Option (Lt × Int) → Value
  | some q => .tuple #[.agg #[.int .i64 q.1.b, .complex .f64 q.1.re q.1.im], .bool true]
  | none => .tuple #[.agg #[.int .i64 0, .complex .f64 0 0], .bool false]
def joinI : Option (Lt × Int) → Int
  | some q => q.2
  | none => 0
def joinV (o : Option (Lt × Int)) : Value := .tuple #[.int .i64 (joinI o), .bool o.isSome]
/-- The mark is one of the letter's kind. -/
def clash (t : Lt) (x y : Nat) : Bool := (!fe t.re 0 && !fe x 0) || (!fe t.im 0 && !fe y 0)
def J (b : Int) (r s : Nat) : Bool := (vietAll.find? (joinP b r s)).isSome
def AddR (t : Lt) (x y : Nat) (v : Value) : Prop :=
  if clash t x y = true then v = .tuple #[.agg t.cells.toArray, .bool false] else
    ∃ r s, FAdd t.re x r ∧ FAdd t.im y s ∧ v = if J t.b r s = true then .tuple #[.agg #[.int .i64 t.b, .complex .f64 r s], .bool true] else .tuple #[.agg t.cells.toArray, .bool false]
theorem FAdd_same {a x r r' : Nat} (h : FAdd a x r) (h' : FAdd a x r') : r = r' ∨ (∀ z, fe z r = false ∧ fe z r' = false) := by
  rcases h with h | ⟨h, hz⟩ <;> rcases h' with h' | ⟨h', hz'⟩
  · rw [h] at h'; cases h'; exact .inl rfl
  · rw [h] at h'; cases h'
  · rw [h] at h'; cases h'
  · exact .inr fun z => ⟨(hz z).1, (hz' z).1⟩
theorem J_nan {b : Int} {r s : Nat} (h : (∀ z, fe z r = false) ∨ (∀ z, fe z s = false)) : J b r s = false := by
  have : vietAll.find? (joinP b r s) = none := List.find?_eq_none.2 fun q _ => by
    rcases h with h | h <;> simp [joinP, h]
  simp [J, this]
theorem J_same {a x r r' c y s s' : Nat} (b : Int) (h1 : FAdd a x r) (h2 : FAdd a x r') (h3 : FAdd c y s) (h4 : FAdd c y s') : J b r s = J b r' s' := by
  rcases FAdd_same h1 h2 with rfl | hn
  · rcases FAdd_same h3 h4 with rfl | hn
    · rfl
    · rw [J_nan (.inr fun z => (hn z).1), J_nan (.inr fun z => (hn z).2)]
  · rw [J_nan (.inl fun z => (hn z).1), J_nan (.inl fun z => (hn z).2)]
theorem J_fe {a x r r' c y s s' : Nat} {b : Int} (h1 : FAdd a x r) (h2 : FAdd a x r') (h3 : FAdd c y s) (h4 : FAdd c y s') (hj : J b r s = true) : (fe r r' && fe s s') = true := by
  have hr : r = r' := (FAdd_same h1 h2).resolve_right fun hn => by rw [J_nan (.inl fun z => (hn z).1)] at hj; cases hj
  have hs : s = s' := (FAdd_same h3 h4).resolve_right fun hn => by rw [J_nan (.inr fun z => (hn z).1)] at hj; cases hj
  subst hr; subst hs
  obtain ⟨q, hq⟩ := Option.isSome_iff_exists.1 hj
  have hp := List.find?_some hq
  simp only [joinP, Bool.and_eq_true] at hp
  simp [fe_self hp.2.1, fe_self hp.2.2]
end Go.Proofs.Ytgbajkdomcmblaa
