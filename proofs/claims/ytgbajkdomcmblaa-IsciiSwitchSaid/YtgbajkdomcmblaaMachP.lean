/- Plain laws of rules: the longest one that units begin with, tokens of all units, and of units that come one by one. -/
import Derived.Test.YtgbajkdomcmblaaMachD
namespace Go.Proofs.Ytgbajkdomcmblaa
open Go Go.RowKit Vc
set_option linter.unusedVariables false
set_option linter.unusedSimpArgs false
/-- k, n: the longest rule that us begins with, and how many units it has. -/
def IsLong (rs : List PRule) (us : List Int) (k n : Int) : Prop :=
  (k = -1 ∧ n = 0 ∧ ∀ r ∈ rs, ¬ r.inn <+: us) ∨
  (∃ (i : Nat) (hi : i < rs.length), k = i ∧ n = rs[i].inn.length ∧ rs[i].inn <+: us ∧ ∀ r ∈ rs, r.inn <+: us → r.inn.length ≤ rs[i].inn.length)
/-- May more units make it another rule? -/
def openP (rs : List PRule) (us : List Int) : Bool := rs.any fun r => decide (us.length < r.inn.length) && decide (r.inn.take us.length = us)
def longN (rs : List PRule) (us : List Int) : Nat → Int × Int
  | 0 => (-1, 0)
  | n + 1 => match rs.findIdx? fun r => decide (r.inn = us.take (n + 1)) with
    | some i => ((i : Int), ((n + 1 : Nat) : Int))
    | none => longN rs us n
def longestP (rs : List PRule) (us : List Int) : Int × Int := longN rs us us.length
/-- Rules that may be. -/
structure RightR (rs : List PRule) : Prop where
  ne : ∀ r ∈ rs, 0 < r.inn.length
  one : ∀ (i j : Nat) (hi : i < rs.length) (hj : j < rs.length), rs[i].inn = rs[j].inn → i = j
theorem openP_iff {rs : List PRule} {us : List Int} : openP rs us = true ↔ ∃ r ∈ rs, us <+: r.inn ∧ us.length < r.inn.length := by
  simp only [openP, List.any_eq_true, Bool.and_eq_true, decide_eq_true_eq]
  constructor
  · rintro ⟨r, hr, h1, h2⟩
    exact ⟨r, hr, by rw [List.prefix_iff_eq_take]; exact h2.symm, h1⟩
  · rintro ⟨r, hr, h1, h2⟩
    exact ⟨r, hr, h2, by rw [List.prefix_iff_eq_take] at h1; exact h1.symm⟩
theorem longN_is {rs : List PRule} {us : List Int} (hr : RightR rs) : ∀ (n : Nat), n ≤ us.length → (∀ r ∈ rs, r.inn <+: us → r.inn.length ≤ n) → IsLong rs us (longN rs us n).1 (longN rs us n).2
  | 0, _, h => .inl ⟨rfl, rfl, fun r hr' hp => by have := h r hr' hp; have := hr.ne r hr'; omega⟩
  | n + 1, hn, h => by
    unfold longN
    cases hf : rs.findIdx? fun r => decide (r.inn = us.take (n + 1)) with
    | some i =>
      rw [List.findIdx?_eq_some_iff_getElem] at hf
      obtain ⟨hi, hp, _⟩ := hf
      have hp := of_decide_eq_true hp
      have hl : rs[i].inn.length = n + 1 := by rw [hp]; simp; omega
      exact .inr ⟨i, hi, rfl, by rw [hl], by rw [hp]; exact List.take_prefix _ _, fun r hr' hpp => by rw [hl]; exact h r hr' hpp⟩
    | none =>
      rw [List.findIdx?_eq_none_iff] at hf
      refine longN_is hr n (by omega) fun r hr' hp => ?_
      have h1 := h r hr' hp
      by_cases he : r.inn.length = n + 1
      · rw [List.prefix_iff_eq_take, he] at hp
        have := hf r hr'
        simp [← hp] at this
      · omega
theorem longestP_is {rs : List PRule} (hr : RightR rs) (us : List Int) : IsLong rs us (longestP rs us).1 (longestP rs us).2 :=
  longN_is hr us.length (Nat.le_refl _) fun r _ hp => hp.length_le
theorem prefix_eq {a b us : List Int} (ha : a <+: us) (hb : b <+: us) (h : a.length = b.length) : a = b := by
  rw [List.prefix_iff_eq_take] at ha hb
  rw [ha, hb, h]
theorem IsLong.eq {rs : List PRule} {us : List Int} (hr : RightR rs) {k n k' n' : Int} (h : IsLong rs us k n) (h' : IsLong rs us k' n') : k = k' ∧ n = n' := by
  rcases h with ⟨rfl, rfl, h⟩ | ⟨i, hi, rfl, rfl, hp, hm⟩
  · rcases h' with ⟨rfl, rfl, _⟩ | ⟨i, hi, rfl, rfl, hp, _⟩
    · exact ⟨rfl, rfl⟩
    · exact absurd hp (h _ (List.getElem_mem hi))
  · rcases h' with ⟨rfl, rfl, h⟩ | ⟨j, hj, rfl, rfl, hp', hm'⟩
    · exact absurd hp (h _ (List.getElem_mem hi))
    · have h1 := hm _ (List.getElem_mem hj) hp'
      have h2 := hm' _ (List.getElem_mem hi) hp
      have := hr.one i j hi hj (prefix_eq hp hp' (by omega))
      subst this
      exact ⟨rfl, rfl⟩
theorem IsLong.eqP {rs : List PRule} {us : List Int} (hr : RightR rs) {k n : Int} (h : IsLong rs us k n) : (k, n) = longestP rs us := by
  have := h.eq hr (longestP_is hr us)
  rw [this.1, this.2]
theorem long_le {rs : List PRule} (hr : RightR rs) (us : List Int) : 0 ≤ (longestP rs us).2 ∧ (longestP rs us).2 ≤ us.length ∧ (0 ≤ (longestP rs us).1 → 0 < (longestP rs us).2 ∧ (longestP rs us).1 < rs.length) ∧ ((longestP rs us).1 < 0 → (longestP rs us).1 = -1 ∧ (longestP rs us).2 = 0) := by
  rcases longestP_is hr us with ⟨h1, h2, _⟩ | ⟨i, hi, h1, h2, hp, _⟩
  · rw [h1, h2]; simp
  · have := hp.length_le
    have := hr.ne _ (List.getElem_mem hi)
    rw [h1, h2]
    refine ⟨by omega, by omega, fun _ => ⟨by omega, by omega⟩, fun h => by omega⟩
/-- Where no more units may come, they change nothing. -/
theorem long_more {rs : List PRule} (hr : RightR rs) {us : List Int} (h : openP rs us = false) (more : List Int) : longestP rs (us ++ more) = longestP rs us := by
  refine (IsLong.eqP hr ?_).symm
  have key : ∀ r ∈ rs, r.inn <+: us ++ more → r.inn <+: us := fun r hr' hp => by
    by_cases hl : r.inn.length ≤ us.length
    · exact List.prefix_of_prefix_length_le hp (List.prefix_append _ _) hl
    · exfalso
      have : openP rs us = true := openP_iff.2 ⟨r, hr', List.prefix_of_prefix_length_le (List.prefix_append _ _) hp (by omega), by omega⟩
      rw [h] at this; cases this
  rcases longestP_is hr us with ⟨h1, h2, h3⟩ | ⟨i, hi, h1, h2, hp, hm⟩
  · exact .inl ⟨h1, h2, fun r hr' hp => h3 r hr' (key r hr' hp)⟩
  · exact .inr ⟨i, hi, h1, h2, hp.trans (List.prefix_append _ _), fun r hr' hp' => hm r hr' (key r hr' hp')⟩
/-! Tokens. -/
def outP (rs : List PRule) (k : Int) : List Int := match rs[k.toNat]? with
  | some r => r.out
  | none => []
def tokP (rs : List PRule) (us : List Int) (a : Int) : PTok :=
  if (longestP rs us).1 < 0 then ⟨a, 1, [], 3⟩ else ⟨a, max 1 (longestP rs us).2, outP rs (longestP rs us).1, 0⟩
theorem tok_len {rs : List PRule} (hr : RightR rs) {us : List Int} (hu : us ≠ []) (a : Int) : 1 ≤ (tokP rs us a).len ∧ (tokP rs us a).len ≤ us.length := by
  have := long_le hr us
  have : 0 < us.length := List.length_pos_iff.2 hu
  unfold tokP
  split <;> simp <;> omega
theorem tok_pos (rs : List PRule) (us : List Int) (a : Int) : 1 ≤ (tokP rs us a).len := by
  unfold tokP; split <;> simp <;> omega
/-- The tokens of all units. -/
def batchP (rs : List PRule) (us : List Int) (a : Int) : List PTok :=
  if h : us = [] then [] else tokP rs us a :: batchP rs (us.drop (tokP rs us a).len.toNat) (a + (tokP rs us a).len)
termination_by us.length
decreasing_by
  have h1 := tok_pos rs us a
  have h2 := List.length_pos_iff.2 h
  simp only [List.length_drop]
  omega
theorem batch_nil (rs : List PRule) (a : Int) : batchP rs [] a = [] := by rw [batchP]; simp
theorem batch_cons (rs : List PRule) {us : List Int} (h : us ≠ []) (a : Int) : batchP rs us a = tokP rs us a :: batchP rs (us.drop (tokP rs us a).len.toNat) (a + (tokP rs us a).len) := by
  rw [batchP]; simp [h]
/-- What is taken off what waits: tokens, what waits still, where it begins. -/
def takeP (rs : List PRule) (e : Bool) (us : List Int) (a : Int) : List PTok × List Int × Int :=
  if h : us = [] then ([], [], a) else if openP rs us && !e then ([], us, a) else
    let r := takeP rs e (us.drop (tokP rs us a).len.toNat) (a + (tokP rs us a).len)
    (tokP rs us a :: r.1, r.2)
termination_by us.length
decreasing_by
  have h1 := tok_pos rs us a
  have h2 := List.length_pos_iff.2 h
  simp only [List.length_drop]
  omega
theorem take_nil (rs : List PRule) (e : Bool) (a : Int) : takeP rs e [] a = ([], [], a) := by rw [takeP]; simp
theorem take_open {rs : List PRule} {e : Bool} {us : List Int} (h : us ≠ []) (ho : (openP rs us && !e) = true) (a : Int) : takeP rs e us a = ([], us, a) := by
  rw [takeP]; simp [h, ho]
theorem take_cons {rs : List PRule} {e : Bool} {us : List Int} (h : us ≠ []) (ho : (openP rs us && !e) = false) (a : Int) :
    takeP rs e us a = (tokP rs us a :: (takeP rs e (us.drop (tokP rs us a).len.toNat) (a + (tokP rs us a).len)).1, (takeP rs e (us.drop (tokP rs us a).len.toNat) (a + (tokP rs us a).len)).2) := by
  rw [takeP]; simp [h, ho]
/-- At the end all are taken. -/
theorem take_end {rs : List PRule} (hr : RightR rs) : ∀ (m : Nat) (us : List Int) (a : Int), us.length ≤ m → takeP rs true us a = (batchP rs us a, [], a + us.length)
  | 0, us, a, h => by
    have : us = [] := List.eq_nil_of_length_eq_zero (by omega)
    subst this
    simp [take_nil, batch_nil]
  | m + 1, us, a, h => by
    by_cases hu : us = []
    · subst hu; simp [take_nil, batch_nil]
    · have h1 := tok_len hr hu a
      rw [take_cons hu (by simp), batch_cons rs hu, take_end hr m _ _ (by simp; omega)]
      simp only [List.length_drop]
      congr 2
      omega
/-- What is read one by one is what is read of all. -/
theorem take_batch {rs : List PRule} (hr : RightR rs) (more : List Int) : ∀ (m : Nat) (us : List Int) (a : Int), us.length ≤ m →
    batchP rs (us ++ more) a = (takeP rs false us a).1 ++ batchP rs ((takeP rs false us a).2.1 ++ more) (takeP rs false us a).2.2
  | 0, us, a, h => by
    have : us = [] := List.eq_nil_of_length_eq_zero (by omega)
    subst this
    simp [take_nil]
  | m + 1, us, a, h => by
    by_cases hu : us = []
    · subst hu; simp [take_nil]
    · cases ho : openP rs us with
      | true => rw [take_open hu (by simp [ho])]; simp
      | false =>
        have h1 := tok_len hr hu a
        have hne : us ++ more ≠ [] := by simp [hu]
        have ht : tokP rs (us ++ more) a = tokP rs us a := by unfold tokP; rw [long_more hr ho]
        rw [take_cons hu (by simp [ho]), batch_cons rs hne, ht, List.drop_append_of_le_length (by omega), take_batch hr more m _ _ (by simp; omega)]
        simp
/-- What waits, and where it begins. -/
theorem take_wait {rs : List PRule} (hr : RightR rs) (e : Bool) : ∀ (m : Nat) (us : List Int) (a : Int), us.length ≤ m →
    (takeP rs e us a).2.2 + (takeP rs e us a).2.1.length = a + us.length ∧ ((takeP rs e us a).2.1 = [] ∨ openP rs (takeP rs e us a).2.1 = true) ∧ (takeP rs e us a).2.1 <:+ us ∧
    a + ((takeP rs e us a).1.map PTok.len).sum = (takeP rs e us a).2.2 ∧ (takeP rs e us a).1.length ≤ us.length
  | 0, us, a, h => by
    have : us = [] := List.eq_nil_of_length_eq_zero (by omega)
    subst this
    simp [take_nil]
  | m + 1, us, a, h => by
    by_cases hu : us = []
    · subst hu; simp [take_nil]
    · cases ho : openP rs us && !e with
      | true =>
        rw [take_open hu ho]
        simp only [Bool.and_eq_true] at ho
        exact ⟨rfl, .inr ho.1, List.suffix_refl _, by simp, by simp⟩
      | false =>
        have h1 := tok_len hr hu a
        obtain ⟨i1, i2, i3, i4, i5⟩ := take_wait hr e m (us.drop (tokP rs us a).len.toNat) (a + (tokP rs us a).len) (by simp; omega)
        rw [take_cons hu ho]
        simp only [List.length_drop] at i1 i5
        refine ⟨by simp only; omega, i2, i3.trans (List.drop_suffix _ _), ?_, ?_⟩
        · simp only [List.map_cons, List.sum_cons]; omega
        · simp only [List.length_cons]; omega
end Go.Proofs.Ytgbajkdomcmblaa
