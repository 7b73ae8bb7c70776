/- A trie in memory, by its rules. -/
import Derived.Test.YtgbajkdomcmblaaMachE
import Derived.Test.YtgbajkdomcmblaaMachT
import Derived.Test.YtgbajkdomcmblaaVr
namespace Go.Proofs.Ytgbajkdomcmblaa
open Go Go.RowKit Vc
set_option linter.unusedVariables false
set_option linter.unusedSimpArgs false
def outRule (r : PRule) : PRule := ⟨[], r.out⟩
/-- A trie of these rules lies at g. -/
def TrieR (w : World) (M : MS) (g : Nat) (rs : List PRule) : Prop :=
  ∃ (An Ar : Option Addr) (cn cr : Nat) (nodes : List PNode) (rules : List PRule) (kids : Nat → List Nat),
    At w M ⟨g, 0, none⟩ [.slice An nodes.length cn, .slice Ar rules.length cr] ∧ SlD NodeR 4 w M An cn nodes ∧ SlD RuleR 2 w M Ar cr rules ∧ rules = rs.map outRule ∧ 0 < nodes.length ∧
    (∀ (a : Nat) (ha : a < nodes.length), Chain nodes nodes[a].kid (kids a)) ∧ ∀ us, longT nodes kids us 0 (-1) 0 0 = ((longestP rs us).1, (longestP rs us).2, openP rs us)
theorem TrieR.up {w w' : World} {M M' : MS} {g : Nat} {rs : List PRule} (h : TrieR w M g rs) (u : Up w M w' M') : TrieR w' M' g rs := by
  obtain ⟨An, Ar, cn, cr, nodes, rules, kids, h1, h2, h3, h4⟩ := h
  exact ⟨An, Ar, cn, cr, nodes, rules, kids, h1.up u, h2.up u, h3.up u, h4⟩
/-- Rules that have a trie. -/
structure GoodR (rs : List PRule) : Prop where
  len : rs.length ≤ 512
  ok : ∀ (k : Nat) (hk : k < rs.length), mayP rs[k].inn = true ∧ mayP rs[k].out = true ∧ findP (rs.take k) rs[k].inn < 0
theorem may_le {l : List Int} (h : mayP l = true) : 0 < l.length ∧ l.length ≤ 8 ∧ ∀ u ∈ l, 0 ≤ u ∧ u ≤ 1114111 := by
  simp only [mayP, Bool.and_eq_true, decide_eq_true_eq, List.all_eq_true, okU] at h
  exact ⟨h.1.2, by omega, h.1.1⟩
theorem GoodR.mem {rs : List PRule} (h : GoodR rs) {r : PRule} (hr : r ∈ rs) : (0 < r.inn.length ∧ r.inn.length ≤ 8 ∧ ∀ u ∈ r.inn, 0 ≤ u ∧ u ≤ 1114111) ∧ (0 < r.out.length ∧ r.out.length ≤ 8 ∧ ∀ u ∈ r.out, 0 ≤ u ∧ u ≤ 1114111) := by
  obtain ⟨i, hi, rfl⟩ := List.mem_iff_getElem.1 hr
  obtain ⟨h1, h2, _⟩ := h.ok i hi
  exact ⟨may_le h1, may_le h2⟩
theorem GoodR.ne {rs : List PRule} (h : GoodR rs) : ∀ r ∈ rs, 0 < r.inn.length := fun r hr => (h.mem hr).1.1
theorem GoodR.right {rs : List PRule} (h : GoodR rs) : RightR rs := by
  have key : ∀ (i j : Nat) (hi : i < rs.length) (hj : j < rs.length), i < j → rs[i].inn ≠ rs[j].inn := fun i j hi hj hij he => by
    have := (h.ok j hj).2.2
    rw [findP_neg, List.any_eq_false] at this
    have hm : rs[i] ∈ rs.take j := List.mem_take_iff_getElem.2 ⟨i, by omega, rfl⟩
    exact this _ hm (decide_eq_true he)
  refine ⟨h.ne, fun i j hi hj he => ?_⟩
  rcases Nat.lt_trichotomy i j with h1 | h1 | h1
  · exact absurd he (key i j hi hj h1)
  · exact h1
  · exact absurd he.symm (key j i hj hi h1)
theorem GoodR.out {rs : List PRule} (h : GoodR rs) : ∀ r ∈ rs, r.out.length ≤ 1000 := fun r hr => by have := (h.mem hr).2.2.1; omega
theorem TrieG.kids {rs : List PRule} {k j : Nat} {nodes : List PNode} {paths : List (List Int)} (h : TrieG rs k j nodes paths) : ∃ kids : Nat → List Nat, ∀ (a : Nat) (ha : a < nodes.length), Chain nodes nodes[a].kid (kids a) := by
  have hc : ∀ a : Nat, ∃ l : List Nat, ∀ ha : a < nodes.length, Chain nodes nodes[a].kid l := fun a => by
    by_cases ha : a < nodes.length
    · have hp : a < paths.length := by rw [h.len]; exact ha
      obtain ⟨l, hl, _⟩ := h.chain a ha paths[a] (List.getElem?_eq_getElem hp)
      exact ⟨l, fun _ => hl⟩
    · exact ⟨[], fun h => absurd h ha⟩
  exact ⟨fun a => Classical.choose (hc a), fun a ha => Classical.choose_spec (hc a) ha⟩
theorem TrieG.longs {rs : List PRule} {nodes : List PNode} {paths : List (List Int)} (hr : RightR rs) (h : TrieG rs rs.length 0 nodes paths) : ∃ kids : Nat → List Nat, (∀ (a : Nat) (ha : a < nodes.length), Chain nodes nodes[a].kid (kids a)) ∧ ∀ us, longT nodes kids us 0 (-1) 0 0 = ((longestP rs us).1, (longestP rs us).2, openP rs us) := by
  obtain ⟨kids, hk⟩ := h.kids
  refine ⟨kids, hk, fun us => ?_⟩
  have := h.long hr hk us us.length 0 (-1) 0 0 (by omega) (by omega) (by simpa using h.root) (.inl ⟨rfl, rfl, fun r hr' hp => by
    have h1 := hp.length_le
    have h2 := hr.ne r hr'
    simp only [List.take_zero, List.length_nil] at h1
    omega⟩)
  simpa using this
theorem TrieG.pos {rs : List PRule} {k j : Nat} {nodes : List PNode} {paths : List (List Int)} (h : TrieG rs k j nodes paths) : 0 < nodes.length := by
  have := (List.getElem?_eq_some_iff.1 h.root).1
  rw [← h.len]; exact this
theorem TrieR.longest {w : World} {M : MS} {g : Nat} {rs : List PRule} (h : TrieR w M g rs) (hm : MB w M) {A : Option Addr} {c : Nat} {us : List Int} (h1 : SlD IntR 1 w M A c us) :
    Fc Try.prog 109 #[.pointer (some ⟨g, 0, none⟩), .slice A us.length c] w (fun v w' => v = .tuple #[.int .i64 (longestP rs us).1, .int .i64 (longestP rs us).2, .bool (openP rs us)] ∧ Ext w w') := by
  obtain ⟨An, Ar, cn, cr, nodes, rules, kids, h2, h3, h4, _, h6, h7, h8⟩ := h
  refine (trieLongest_spec w M hm h2 h3 h4 h1 h6 h7).mono fun v w' ⟨hv, he⟩ => ⟨?_, he⟩
  rw [hv, h8]; rfl
theorem TrieR.out {w : World} {M : MS} {g : Nat} {rs : List PRule} (h : TrieR w M g rs) (hm : MB w M) {k : Int} (h0 : 0 ≤ k) (hk : k < rs.length) (hl : ∀ r ∈ rs, r.out.length ≤ 1000) :
    Fc Try.prog 110 #[.pointer (some ⟨g, 0, none⟩), .int .i64 k] w (fun v w' => Sl IntR 1 w' M v (outP rs k) ∧ Ext w w') := by
  obtain ⟨An, Ar, cn, cr, nodes, rules, kids, h2, h3, h4, rfl, h6, h7, h8⟩ := h
  obtain ⟨i, rfl⟩ : ∃ i : Nat, k = i := ⟨k.toNat, by omega⟩
  have hi : i < rs.length := by omega
  have hi2 : i < (rs.map outRule).length := by simpa using hi
  refine (trieOut_spec w M hm h2 h3 h4 (at_ := i) hi2 (by simp only [List.getElem_map, outRule]; exact hl _ (List.getElem_mem hi))).mono fun v w' ⟨hv, he⟩ => ⟨?_, he⟩
  have : outP rs (i : Int) = ((rs.map outRule)[i]).out := by
    unfold outP
    rw [Int.toNat_natCast, List.getElem?_eq_getElem hi]
    simp [outRule]
  rw [this]; exact hv
end Go.Proofs.Ytgbajkdomcmblaa
