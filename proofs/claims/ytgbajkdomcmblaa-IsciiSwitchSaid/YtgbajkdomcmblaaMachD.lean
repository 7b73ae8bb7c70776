/- Rules, tokens, tries and machines as plain data, and how memory tells them. -/
import Derived.Test.YtgbajkdomcmblaaVc
namespace Go.Proofs.Ytgbajkdomcmblaa
open Go Go.RowKit Vc
set_option linter.unusedVariables false
set_option linter.unusedSimpArgs false
theorem take_min {α : Type} (xs : List α) (n : Nat) : xs.take (min (xs.length : Int) (n : Int)).toNat = xs.take n := by
  by_cases hq : xs.length ≤ n
  · rw [show (min (xs.length : Int) (n : Int)).toNat = xs.length by omega, List.take_length, List.take_of_length_le hq]
  · rw [show (min (xs.length : Int) (n : Int)).toNat = n by omega]
/-- A rule. -/
structure PRule where
  inn : List Int
  out : List Int
  deriving DecidableEq
def RuleR : ER PRule := fun w M cs x => ∃ v u, cs = [v, u] ∧ Sl IntR 1 w M v x.inn ∧ Sl IntR 1 w M u x.out
instance : Stable RuleR := ⟨fun ⟨v, u, h, hs, ht⟩ g => ⟨v, u, h, hs.up g, ht.up g⟩, fun ⟨v, u, h, hs, ht⟩ x hx => by rw [h] at hx; simp at hx; rcases hx with rfl | rfl <;> first | exact hs.one | exact ht.one⟩
/-- A row of the law's. -/
structure PRow where
  inn : List Int
  out : List Int
  odd : Bool
  any : PRule
def RowR : ER PRow := fun w M cs x => ∃ a b c d, cs = [a, b, .bool x.odd, c, d] ∧ Sl ByteR 1 w M a x.inn ∧ Sl ByteR 1 w M b x.out ∧ Sl IntR 1 w M c x.any.inn ∧ Sl IntR 1 w M d x.any.out
instance : Stable RowR := ⟨fun ⟨a, b, c, d, h, h1, h2, h3, h4⟩ g => ⟨a, b, c, d, h, h1.up g, h2.up g, h3.up g, h4.up g⟩,
  fun ⟨a, b, c, d, h, h1, h2, h3, h4⟩ x hx => by rw [h] at hx; simp at hx; rcases hx with rfl | rfl | rfl | rfl | rfl <;> first | exact h1.one | exact h2.one | exact h3.one | exact h4.one | rfl⟩
/-- A token. -/
structure PTok where
  at_ : Int
  len : Int
  out : List Int
  err : Int
  deriving DecidableEq
/-! The law's rules. -/
def unitsP (l : List Int) : List Int := if l = [] then [97] else (l.take 4).map fun u => 97 + u % 5
def ruleP (r : PRow) : PRule := if r.odd then r.any else ⟨unitsP r.inn, unitsP r.out⟩
def rulesP (rows : List PRow) : List PRule := (rows.take 40).map ruleP
def okU (u : Int) : Bool := decide (0 ≤ u) && decide (u ≤ 1114111)
def mayP (us : List Int) : Bool := us.all okU && decide (0 < us.length) && decide (us.length < 9)
/-- The place of the first rule of these units; -1 where there is none. -/
def findP (rs : List PRule) (us : List Int) : Int := match rs.findIdx? fun r => decide (r.inn = us) with
  | some i => i
  | none => -1
def rightStep (out : List PRule) (r : PRule) : List PRule := if (mayP r.inn && mayP r.out && decide (findP out r.inn < 0)) = true then out ++ [r] else out
def rightP (rs : List PRule) : List PRule := rs.foldl rightStep []
/-- What a beginning of n units must meet. -/
def begP (rs : List PRule) (us : List Int) (n : Nat) : Bool := (rs.any fun x => decide (x.inn = us.take n)) || (decide (n ≤ 1) && !(rs.any fun x => decide (x.inn.getLast? = us.head?)))
def closedP (rs : List PRule) : Bool := rs.all fun r => (List.range r.inn.length).all fun n => decide (n = 0) || begP rs r.inn n
def tableStep (out : List PRule) (r : PRule) : List PRule := if closedP (out ++ [r]) = true then out ++ [r] else out
def tableP (rs : List PRule) : List PRule := rs.foldl tableStep []
def someP (l : List Int) : List Int := (l.take 60).map fun u => 97 + u % 6
def fewP (l : List Int) : List Int := someP (l.take 40)
theorem units_end (l : List Int) {k : Nat} (hk : (l.take 4).length ≤ k) : ((((l.take 4).take k).map fun u => 97 + u % 5) ++ [97]).take (max 1 ((((l.take 4).take k).map fun u => 97 + u % 5).length : Int)).toNat = unitsP l := by
  rw [List.take_of_length_le hk]
  cases l with
  | nil => rfl
  | cons a l =>
    have h : (max 1 ((((a :: l).take 4).map fun u => 97 + u % 5).length : Int)).toNat = (((a :: l).take 4).map fun u => 97 + u % 5).length := by simp; omega
    rw [h, List.take_left]
    rfl
theorem all_next {α : Type} {p : α → Bool} {l : List α} {i : Nat} (hi : i < l.length) (hn : (l.take i).all p = true) (hp : p l[i] = true) : (l.take (i + 1)).all p = true := by
  rw [List.take_succ_eq_append_getElem hi, List.all_append, hn]; simp [hp]
theorem all_end {α : Type} {p : α → Bool} {l : List α} {i : Nat} (hi : l.length ≤ i) (hn : (l.take i).all p = true) : l.all p = true := by
  rwa [List.take_of_length_le hi] at hn
theorem all_bad {α : Type} {p : α → Bool} {l : List α} {i : Nat} (hi : i < l.length) (hp : p l[i] = false) : l.all p = false := by
  rw [List.all_eq_false]; exact ⟨l[i], List.getElem_mem hi, by simp [hp]⟩
theorem any_next {α : Type} {p : α → Bool} {l : List α} {i : Nat} (hi : i < l.length) : (l.take (i + 1)).any p = ((l.take i).any p || p l[i]) := by
  rw [List.take_succ_eq_append_getElem hi, List.any_append]; simp
theorem findIdx_hit {α : Type} {p : α → Bool} {l : List α} {i : Nat} (hi : i < l.length) (hn : (l.take i).findIdx? p = none) (hp : p l[i] = true) : l.findIdx? p = some i := by
  rw [List.findIdx?_eq_none_iff] at hn
  rw [List.findIdx?_eq_some_iff_getElem]
  refine ⟨hi, hp, fun j hj => ?_⟩
  have := hn l[j] (List.mem_take_iff_getElem.2 ⟨j, by omega, rfl⟩)
  simp [this]
theorem findIdx_next {α : Type} {p : α → Bool} {l : List α} {i : Nat} (hi : i < l.length) (hn : (l.take i).findIdx? p = none) (hp : p l[i] = false) : (l.take (i + 1)).findIdx? p = none := by
  rw [List.findIdx?_eq_none_iff] at hn ⊢
  intro x hx
  rw [List.take_succ_eq_append_getElem hi] at hx
  rcases List.mem_append.1 hx with hx | hx
  · exact hn x hx
  · rw [List.mem_singleton.1 hx]; exact hp
theorem findIdx_end {α : Type} {p : α → Bool} {l : List α} {i : Nat} (hi : l.length ≤ i) (hn : (l.take i).findIdx? p = none) : l.findIdx? p = none := by
  rwa [List.take_of_length_le hi] at hn
theorem rightStep_len (out : List PRule) (r : PRule) : (rightStep out r).length ≤ out.length + 1 := by
  unfold rightStep; split <;> simp
theorem rightFold_len : ∀ (l out : List PRule), (l.foldl rightStep out).length ≤ out.length + l.length
  | [], out => by simp
  | r :: l, out => by
    have h1 := rightStep_len out r
    have h2 := rightFold_len l (rightStep out r)
    simp only [List.foldl_cons, List.length_cons]
    omega
theorem tableStep_len (out : List PRule) (r : PRule) : (tableStep out r).length ≤ out.length + 1 := by
  unfold tableStep; split <;> simp
theorem tableFold_len : ∀ (l out : List PRule), (l.foldl tableStep out).length ≤ out.length + l.length
  | [], out => by simp
  | r :: l, out => by
    have h1 := tableStep_len out r
    have h2 := tableFold_len l (tableStep out r)
    simp only [List.foldl_cons, List.length_cons]
    omega
theorem last_head {x y : List Int} (hx : 0 < x.length) (hy : 0 < y.length) {i : Nat} (hi : i < x.length) (he : i = x.length - 1) : (x[i] = y[0]) = (x.getLast? = y.head?) := by
  subst he
  rw [List.getLast?_eq_getElem?, List.head?_eq_getElem?, List.getElem?_eq_getElem hi, List.getElem?_eq_getElem hy]
  simp
theorem closed_ok {rs : List PRule} {us : List Int} {n m : Nat} (hn : 1 ≤ n) (hm : rs.length ≤ m)
    (h : ((rs.take m).any fun x => decide (x.inn = us.take n)) = true ∨ (n ≤ 1 ∧ ((rs.take m).any fun x => decide (x.inn.getLast? = us.head?)) = false)) : (decide (n = 0) || begP rs us n) = true := by
  rw [List.take_of_length_le hm] at h
  unfold begP
  rcases h with h | ⟨h1, h2⟩
  · simp [h]
  · simp only [h2, decide_eq_true h1]; simp
theorem closed_bad {rs : List PRule} {k n m : Nat} (hk : k < rs.length) (hn : 1 ≤ n) (hl : n < rs[k].inn.length) (hm : rs.length ≤ m)
    (h : ((rs.take m).any fun x => decide (x.inn = rs[k].inn.take n)) = false ∧ (1 < n ∨ ((rs.take m).any fun x => decide (x.inn.getLast? = rs[k].inn.head?)) = true)) : closedP rs = false := by
  rw [List.take_of_length_le hm] at h
  refine all_bad hk (all_bad (i := n) (by simpa using hl) ?_)
  simp only [List.getElem_range, begP, h.1, Bool.false_or]
  rcases h.2 with h2 | h2
  · rw [decide_eq_false (by omega), decide_eq_false (by omega)]; rfl
  · rw [decide_eq_false (by omega), h2]; simp
theorem right40 (rows : List PRow) : (rightP (rulesP rows)).length ≤ 40 := by
  have h1 := rightFold_len (rulesP rows) []
  have h2 : (rulesP rows).length ≤ 40 := by simp [rulesP]; omega
  simp only [List.length_nil] at h1
  unfold rightP
  omega
theorem rightFold_ok : ∀ (l out : List PRule), (∀ x ∈ out, mayP x.inn = true ∧ mayP x.out = true) → ∀ x ∈ l.foldl rightStep out, mayP x.inn = true ∧ mayP x.out = true
  | [], _, h => h
  | r :: l, out, h => by
    refine rightFold_ok l (rightStep out r) fun x hx => ?_
    unfold rightStep at hx
    split at hx
    · rename_i hc
      simp only [Bool.and_eq_true] at hc
      rcases List.mem_append.1 hx with hx | hx
      · exact h x hx
      · rw [List.mem_singleton.1 hx]; exact hc.1
    · exact h x hx
theorem rightP_ok (l : List PRule) : ∀ x ∈ rightP l, mayP x.inn = true ∧ mayP x.out = true := rightFold_ok l [] (by simp)
theorem may_pos {l : List Int} (h : mayP l = true) : 0 < l.length := by
  simp only [mayP, Bool.and_eq_true, decide_eq_true_eq] at h; exact h.1.2
theorem tableFold_sub : ∀ (l out : List PRule), ∀ x ∈ l.foldl tableStep out, x ∈ out ∨ x ∈ l
  | [], _, x, h => .inl h
  | r :: l, out, x, h => by
    rcases tableFold_sub l _ x h with h | h
    · unfold tableStep at h
      split at h
      · rcases List.mem_append.1 h with h | h
        · exact .inl h
        · exact .inr (by rw [List.mem_singleton.1 h]; simp)
      · exact .inl h
    · exact .inr (by simp [h])
theorem table_ne {rows : List PRow} {k : Nat} (hk : k < (rightP (rulesP rows)).length) : ∀ x ∈ ((rightP (rulesP rows)).take k).foldl tableStep [] ++ [(rightP (rulesP rows))[k]], 0 < x.inn.length := by
  intro x hx
  refine may_pos (rightP_ok (rulesP rows) x ?_).1
  rcases List.mem_append.1 hx with hx | hx
  · rcases tableFold_sub _ _ x hx with h | h
    · simp at h
    · exact List.mem_of_mem_take h
  · rw [List.mem_singleton.1 hx]; exact List.getElem_mem hk
def turnStep (out : List PRule) (r : PRule) : List PRule := if findP out r.out < 0 then out ++ [⟨r.out, r.inn⟩] else out
def turnP (rs : List PRule) : List PRule := rs.foldl turnStep []
theorem turnStep_len (out : List PRule) (r : PRule) : (turnStep out r).length ≤ out.length + 1 := by
  unfold turnStep; split <;> simp
theorem turnFold_len : ∀ (l out : List PRule), (l.foldl turnStep out).length ≤ out.length + l.length
  | [], out => by simp
  | r :: l, out => by
    have h1 := turnStep_len out r
    have h2 := turnFold_len l (turnStep out r)
    simp only [List.foldl_cons, List.length_cons]
    omega
def longP (rs : List PRule) : Int := rs.foldl (fun n r => max n (r.inn.length : Int)) 0
/-! Tries. -/
structure PNode where
  unit : Int
  kid : Int
  brother : Int
  rule : Int
def NodeR : ER PNode := fun _ _ cs x => cs = [.int .i64 x.unit, .int .i64 x.kid, .int .i64 x.brother, .int .i64 x.rule] ∧ I64 x.unit ∧ I64 x.kid ∧ I64 x.brother ∧ I64 x.rule
instance : Stable NodeR := ⟨fun h _ => h, fun h u hu => by rw [h.1] at hu; simp at hu; rcases hu with rfl | rfl | rfl | rfl <;> rfl⟩
/-- The nodes that are met from k on, by brothers. -/
inductive Chain (nodes : List PNode) : Int → List Nat → Prop
  | nil : Chain nodes 0 []
  | cons {i : Nat} {l : List Nat} (h0 : 0 < i) (h : i < nodes.length) (hc : Chain nodes nodes[i].brother l) : Chain nodes (i : Int) (i :: l)
def unitAt (nodes : List PNode) (u : Int) (i : Nat) : Bool := match nodes[i]? with
  | some n => decide (n.unit = u)
  | none => false
def stepV : Option Nat → Value
  | some i => .tuple #[.int .i64 (i : Int), .bool true]
  | none => .tuple #[.int .i64 0, .bool false]
/-- A trie's longest rule, step by step. -/
def longT (nodes : List PNode) (kids : Nat → List Nat) : List Int → Nat → Int → Int → Nat → Int × Int × Bool
  | [], _, k, n, a => (k, n, match nodes[a]? with
    | some x => !decide (x.kid = 0)
    | none => false)
  | u :: us, i, k, n, a => match (kids a).find? (unitAt nodes u) with
    | none => (k, n, false)
    | some b => match nodes[b]? with
      | none => (k, n, false)
      | some x => if 0 ≤ x.rule then longT nodes kids us (i + 1) x.rule (i + 1) b else longT nodes kids us (i + 1) k n b
theorem longT_end {nodes : List PNode} {kids : Nat → List Nat} {i : Nat} {k n : Int} {a : Nat} (ha : a < nodes.length) : longT nodes kids [] i k n a = (k, n, !decide (nodes[a].kid = 0)) := by
  simp [longT, List.getElem?_eq_getElem ha]
theorem longT_none {nodes : List PNode} {kids : Nat → List Nat} {us : List Int} {i : Nat} {k n : Int} {a : Nat} (hi : i < us.length) (h : (kids a).find? (unitAt nodes us[i]) = none) : longT nodes kids (us.drop i) i k n a = (k, n, false) := by
  rw [List.drop_eq_getElem_cons hi]; simp [longT, h]
theorem longT_some {nodes : List PNode} {kids : Nat → List Nat} {us : List Int} {i : Nat} {k n : Int} {a b : Nat} (hi : i < us.length) (h : (kids a).find? (unitAt nodes us[i]) = some b) (hb : b < nodes.length) :
    longT nodes kids (us.drop i) i k n a = if 0 ≤ nodes[b].rule then longT nodes kids (us.drop (i + 1)) (i + 1) nodes[b].rule (i + 1) b else longT nodes kids (us.drop (i + 1)) (i + 1) k n b := by
  rw [List.drop_eq_getElem_cons hi]; simp [longT, h, List.getElem?_eq_getElem hb]
theorem chain_lt {nodes : List PNode} {k : Int} {l : List Nat} (h : Chain nodes k l) : ∀ i ∈ l, i < nodes.length := by
  induction h with
  | nil => simp
  | cons h0 h _ ih =>
    intro j hj
    rcases List.mem_cons.1 hj with rfl | hj
    · exact h
    · exact ih j hj
end Go.Proofs.Ytgbajkdomcmblaa
