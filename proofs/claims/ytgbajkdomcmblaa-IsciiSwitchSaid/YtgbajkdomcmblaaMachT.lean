/- Plain laws of tries: how one is built of rules, and that its longest rule is the rules' own. -/
import Derived.Test.YtgbajkdomcmblaaMachP
namespace Go.Proofs.Ytgbajkdomcmblaa
open Go Go.RowKit Vc
set_option linter.unusedVariables false
set_option linter.unusedSimpArgs false
theorem Chain.inv {nodes : List PNode} {k : Int} {l : List Nat} (h : Chain nodes k l) : (k = 0 ∧ l = []) ∨ ∃ (i : Nat) (r : List Nat), 0 < i ∧ ∃ hi : i < nodes.length, k = i ∧ l = i :: r ∧ Chain nodes nodes[i].brother r := by
  cases h with
  | nil => exact .inl ⟨rfl, rfl⟩
  | cons h0 h hc => exact .inr ⟨_, _, h0, h, rfl, rfl, hc⟩
theorem Chain.det {nodes : List PNode} {k : Int} {l l' : List Nat} (h : Chain nodes k l) : Chain nodes k l' → l = l' := by
  induction h generalizing l' with
  | nil =>
    intro h'
    rcases h'.inv with ⟨_, rfl⟩ | ⟨i, r, h0, _, hk, _⟩
    · rfl
    · omega
  | cons h0 h hc ih =>
    intro h'
    rcases h'.inv with ⟨hk, _⟩ | ⟨i, r, _, hi, hk, rfl, hc'⟩
    · omega
    · have he := Int.ofNat.inj hk
      subst he
      rw [ih hc']
theorem Chain.congr {nodes nodes' : List PNode} {k : Int} {l : List Nat} (h : Chain nodes k l) (hb : ∀ (i : Nat) (hi : i < nodes.length), ∃ hi' : i < nodes'.length, nodes'[i].brother = nodes[i].brother) : Chain nodes' k l := by
  induction h with
  | nil => exact .nil
  | cons h0 h hc ih =>
    obtain ⟨h', he⟩ := hb _ h
    exact .cons h0 h' (by rw [he]; exact ih)
theorem Chain.lt {nodes : List PNode} {k : Int} {l : List Nat} (h : Chain nodes k l) : ∀ i ∈ l, 0 < i ∧ i < nodes.length := by
  induction h with
  | nil => simp
  | cons h0 h hc ih =>
    intro j hj
    rcases List.mem_cons.1 hj with rfl | hj
    · exact ⟨h0, h⟩
    · exact ih j hj
theorem Chain.zero {nodes : List PNode} {k : Int} {l : List Nat} (h : Chain nodes k l) : k = 0 ↔ l = [] := by
  cases h with
  | nil => simp
  | cons h0 _ _ => simp; omega
/-- Nodes that tell the beginnings of the first k rules, and of j units of the next one. -/
structure TrieG (rs : List PRule) (k j : Nat) (nodes : List PNode) (paths : List (List Int)) : Prop where
  len : paths.length = nodes.length
  root : paths[0]? = some []
  nodup : ∀ (a b : Nat) (p : List Int), paths[a]? = some p → paths[b]? = some p → a = b
  chain : ∀ (a : Nat) (ha : a < nodes.length) (p : List Int), paths[a]? = some p → ∃ l, Chain nodes nodes[a].kid l ∧ ∀ b : Nat, b ∈ l ↔ ∃ u : Int, paths[b]? = some (p ++ [u])
  unit : ∀ (b : Nat) (hb : b < nodes.length) (p : List Int) (u : Int), paths[b]? = some (p ++ [u]) → nodes[b].unit = u
  rule : ∀ (b : Nat) (hb : b < nodes.length) (p : List Int), paths[b]? = some p → (nodes[b].rule = -1 ∧ ∀ (i : Nat) (hi : i < rs.length), i < k → rs[i].inn ≠ p) ∨ ∃ (i : Nat) (hi : i < rs.length), i < k ∧ nodes[b].rule = i ∧ rs[i].inn = p
  all : ∀ (i : Nat) (hi : i < rs.length) (p : List Int), p <+: rs[i].inn → (i < k ∨ i = k ∧ p.length ≤ j) → p ∈ paths
  only : ∀ p ∈ paths, p = [] ∨ ∃ (i : Nat) (hi : i < rs.length), (i < k ∨ i = k ∧ p.length ≤ j) ∧ p <+: rs[i].inn
theorem TrieG.start (rs : List PRule) : TrieG rs 0 0 [⟨0, 0, 0, -1⟩] [[]] where
  len := rfl
  root := rfl
  nodup a b p ha hb := by
    have := (List.getElem?_eq_some_iff.1 ha).1
    have := (List.getElem?_eq_some_iff.1 hb).1
    simp at *; omega
  chain a ha p hp := by
    have h0 : a = 0 := by simp at ha; omega
    subst h0
    simp at hp
    subst hp
    refine ⟨[], .nil, fun b => ?_⟩
    simp only [List.not_mem_nil, List.nil_append, false_iff, not_exists]
    intro u hu
    have := List.mem_of_getElem? hu
    simp at this
  unit b hb p u h := by
    have := List.mem_of_getElem? h
    simp at this
  rule b hb p h := by
    have h0 : b = 0 := by simp at hb; omega
    subst h0
    exact .inl ⟨rfl, fun i hi hk => by omega⟩
  all i hi p hp h := by
    rcases h with h | ⟨h, h2⟩
    · omega
    · simp [List.eq_nil_of_length_eq_zero (show p.length = 0 by omega)]
  only p hp := by simp at hp; exact .inl hp
section build
variable {rs : List PRule} {k j : Nat} {nodes : List PNode} {paths : List (List Int)}
theorem TrieG.find (h : TrieG rs k j nodes paths) {a : Nat} (ha : a < nodes.length) {p : List Int} (hp : paths[a]? = some p) {l : List Nat} (hl : Chain nodes nodes[a].kid l) (u : Int) :
    (∀ b, l.find? (unitAt nodes u) = some b → paths[b]? = some (p ++ [u]) ∧ b < nodes.length) ∧ (l.find? (unitAt nodes u) = none → p ++ [u] ∉ paths) := by
  obtain ⟨l', hl', hm⟩ := h.chain a ha p hp
  have := hl.det hl'
  subst this
  constructor
  · intro b hb
    have h1 := List.mem_of_find?_eq_some hb
    have h2 := List.find?_some hb
    obtain ⟨v, hv⟩ := (hm b).1 h1
    have hlt : b < nodes.length := by rw [← h.len]; exact (List.getElem?_eq_some_iff.1 hv).1
    have h3 := h.unit b hlt p v hv
    simp only [unitAt, List.getElem?_eq_getElem hlt, decide_eq_true_eq] at h2
    rw [← h2, h3]
    exact ⟨hv, hlt⟩
  · intro hn hmem
    obtain ⟨b, hb⟩ := List.mem_iff_getElem?.1 hmem
    have hlt : b < nodes.length := by rw [← h.len]; exact (List.getElem?_eq_some_iff.1 hb).1
    have h1 := (hm b).2 ⟨u, hb⟩
    have h2 := List.find?_eq_none.1 hn b h1
    simp [unitAt, List.getElem?_eq_getElem hlt, h.unit b hlt p u hb] at h2
/-- The next unit's node is there. -/
theorem TrieG.step (h : TrieG rs k j nodes paths) (hk : k < rs.length) (hj : j < rs[k].inn.length) (hm : rs[k].inn.take (j + 1) ∈ paths) : TrieG rs k (j + 1) nodes paths :=
  { h with
    all := fun i hi p hp hc => by
      by_cases hq : i < k ∨ i = k ∧ p.length ≤ j
      · exact h.all i hi p hp hq
      · have hik : i = k := by omega
        subst hik
        have hl : p.length = j + 1 := by omega
        rw [List.prefix_iff_eq_take, hl] at hp
        rw [hp]; exact hm
    only := fun p hp => (h.only p hp).imp id fun ⟨i, hi, hc, hpp⟩ => ⟨i, hi, by omega, hpp⟩ }
/-- The next unit's node is made. -/
theorem TrieG.grow (h : TrieG rs k j nodes paths) (hk : k < rs.length) (hj : j < rs[k].inn.length) {a : Nat} (ha : a < nodes.length) (hp : paths[a]? = some (rs[k].inn.take j)) (hn : rs[k].inn.take j ++ [rs[k].inn[j]] ∉ paths) :
    TrieG rs k (j + 1) ((nodes ++ [(⟨rs[k].inn[j], 0, nodes[a].kid, -1⟩ : PNode)]).set a { nodes[a] with kid := (nodes.length : Int) }) (paths ++ [rs[k].inn.take j ++ [rs[k].inn[j]]]) := by
  have hpl := h.len
  obtain ⟨nodes', hN⟩ : ∃ n, n = (nodes ++ [(⟨rs[k].inn[j], 0, nodes[a].kid, -1⟩ : PNode)]).set a { nodes[a] with kid := (nodes.length : Int) } := ⟨_, rfl⟩
  rw [← hN]
  have hlen : nodes'.length = nodes.length + 1 := by rw [hN]; simp
  have hold : ∀ (i : Nat) (hi : i < nodes.length), i ≠ a → ∃ hi' : i < nodes'.length, nodes'[i]'hi' = nodes[i] := fun i hi hne => ⟨by omega, by
    simp only [hN]; rw [List.getElem_set_ne (by omega), List.getElem_append_left hi]⟩
  have hat : ∃ hi' : a < nodes'.length, nodes'[a]'hi' = { nodes[a] with kid := (nodes.length : Int) } := ⟨by omega, by simp only [hN]; rw [List.getElem_set_self]⟩
  have hnew : ∃ hi' : nodes.length < nodes'.length, nodes'[nodes.length]'hi' = ⟨rs[k].inn[j], 0, nodes[a].kid, -1⟩ := ⟨by omega, by simp only [hN]; rw [List.getElem_set_ne (by omega), List.getElem_append_right (Nat.le_refl _)]; simp⟩
  clear hN
  obtain ⟨_, hat⟩ := hat
  obtain ⟨_, hnew⟩ := hnew
  have hbro : ∀ (i : Nat) (hi : i < nodes.length), ∃ hi' : i < nodes'.length, nodes'[i].brother = nodes[i].brother := fun i hi => by
    by_cases he : i = a
    · subst he; exact ⟨by omega, by rw [hat]⟩
    · obtain ⟨h1, h2⟩ := hold i hi he; exact ⟨h1, by rw [h2]⟩
  have hpo : ∀ (b : Nat), b < nodes.length → (paths ++ [rs[k].inn.take j ++ [rs[k].inn[j]]])[b]? = paths[b]? := fun b hb => List.getElem?_append_left (by omega)
  have hpn : (paths ++ [rs[k].inn.take j ++ [rs[k].inn[j]]])[nodes.length]? = some (rs[k].inn.take j ++ [rs[k].inn[j]]) := by rw [← hpl]; simp
  have hcase : ∀ (b : Nat) q, (paths ++ [rs[k].inn.take j ++ [rs[k].inn[j]]])[b]? = some q → (b < nodes.length ∧ paths[b]? = some q) ∨ (b = nodes.length ∧ q = rs[k].inn.take j ++ [rs[k].inn[j]]) := fun b q hq => by
    have hlt := (List.getElem?_eq_some_iff.1 hq).1
    simp only [List.length_append, List.length_cons, List.length_nil] at hlt
    by_cases hb : b < nodes.length
    · exact .inl ⟨hb, by rw [← hpo b hb]; exact hq⟩
    · have he : b = nodes.length := by omega
      subst he
      rw [hpn] at hq
      exact .inr ⟨rfl, (Option.some.inj hq).symm⟩
  have htk : rs[k].inn.take j ++ [rs[k].inn[j]] = rs[k].inn.take (j + 1) := (List.take_succ_eq_append_getElem hj).symm
  refine ⟨by simp [hlen, hpl], ?_, ?_, ?_, ?_, ?_, ?_, ?_⟩
  · rw [hpo 0 (by omega)]; exact h.root
  · intro x y p hx hy
    rcases hcase x p hx with ⟨h1, h2⟩ | ⟨h1, h2⟩ <;> rcases hcase y p hy with ⟨h3, h4⟩ | ⟨h3, h4⟩
    · exact h.nodup x y p h2 h4
    · rw [h4] at h2; exact absurd (List.mem_of_getElem? h2) hn
    · rw [h2] at h4; exact absurd (List.mem_of_getElem? h4) hn
    · omega
  · intro b hb p hbp
    rcases hcase b p hbp with ⟨h1, h2⟩ | ⟨h1, h2⟩
    · obtain ⟨l, hl, hm⟩ := h.chain b h1 p h2
      by_cases he : b = a
      · subst he
        rw [hp] at h2
        have h2 := Option.some.inj h2
        subst h2
        refine ⟨nodes.length :: l, ?_, fun c => ?_⟩
        · rw [hat]
          exact .cons (by omega) (by omega) (by rw [hnew]; exact hl.congr hbro)
        · rw [List.mem_cons, hm c]
          constructor
          · rintro (rfl | ⟨u, hu⟩)
            · exact ⟨_, hpn⟩
            · exact ⟨u, by rw [hpo c (by have := (List.getElem?_eq_some_iff.1 hu).1; omega)]; exact hu⟩
          · rintro ⟨u, hu⟩
            rcases hcase c _ hu with ⟨h5, h6⟩ | ⟨h5, h6⟩
            · exact .inr ⟨u, h6⟩
            · exact .inl h5
      · obtain ⟨h5, h6⟩ := hold b h1 he
        refine ⟨l, by rw [h6]; exact hl.congr hbro, fun c => ?_⟩
        rw [hm c]
        constructor
        · rintro ⟨u, hu⟩
          exact ⟨u, by rw [hpo c (by have := (List.getElem?_eq_some_iff.1 hu).1; omega)]; exact hu⟩
        · rintro ⟨u, hu⟩
          rcases hcase c _ hu with ⟨h7, h8⟩ | ⟨h7, h8⟩
          · exact ⟨u, h8⟩
          · obtain ⟨h9, _⟩ := List.append_inj' h8 rfl
            rw [h9] at h2
            exact absurd (h.nodup b a _ h2 hp) he
    · subst h1
      refine ⟨[], by rw [hnew]; exact .nil, fun c => ?_⟩
      simp only [List.not_mem_nil, false_iff, not_exists]
      intro u hu
      rcases hcase c _ hu with ⟨h5, h6⟩ | ⟨h5, h6⟩
      · refine absurd ?_ hn
        have h7 := List.mem_of_getElem? h6
        rcases h.only _ h7 with h8 | ⟨i, hi, hc, h8⟩
        · simp at h8
        · exact h.all i hi p (List.IsPrefix.trans (List.prefix_append _ _) h8) (by simp only [List.length_append] at hc; omega) |> fun h => by rw [← h2]; exact h
      · rw [h2] at h6
        have := congrArg List.length h6
        simp at this
  · intro b hb p u hbp
    rcases hcase b _ hbp with ⟨h1, h2⟩ | ⟨h1, h2⟩
    · have := h.unit b h1 p u h2
      by_cases he : b = a
      · subst he; rw [hat]; exact this
      · obtain ⟨_, h6⟩ := hold b h1 he; rw [h6]; exact this
    · subst h1
      rw [hnew]
      obtain ⟨_, h9⟩ := List.append_inj' h2 rfl
      simpa using h9.symm
  · intro b hb p hbp
    rcases hcase b _ hbp with ⟨h1, h2⟩ | ⟨h1, h2⟩
    · have := h.rule b h1 p h2
      by_cases he : b = a
      · subst he; rw [hat]; exact this
      · obtain ⟨_, h6⟩ := hold b h1 he; rw [h6]; exact this
    · subst h1
      rw [hnew]
      refine .inl ⟨rfl, fun i hi hik he => hn ?_⟩
      rw [← h2, ← he]
      exact h.all i hi _ (List.prefix_refl _) (.inl hik)
  · intro i hi p hpp hc
    rw [List.mem_append]
    by_cases hq : i < k ∨ i = k ∧ p.length ≤ j
    · exact .inl (h.all i hi p hpp hq)
    · have hik : i = k := by omega
      subst hik
      have hl : p.length = j + 1 := by omega
      rw [List.prefix_iff_eq_take, hl, ← htk] at hpp
      exact .inr (by rw [hpp]; simp)
  · intro p hpp
    rcases List.mem_append.1 hpp with hpp | hpp
    · exact (h.only p hpp).imp id fun ⟨i, hi, hc, hpp⟩ => ⟨i, hi, by omega, hpp⟩
    · rw [List.mem_singleton] at hpp
      refine .inr ⟨k, hk, .inr ⟨rfl, ?_⟩, by rw [hpp, htk]; exact List.take_prefix _ _⟩
      rw [hpp, htk, List.length_take]; omega
/-- The rule's end. -/
theorem TrieG.close (hr : RightR rs) (h : TrieG rs k j nodes paths) (hk : k < rs.length) (hj : rs[k].inn.length ≤ j) {a : Nat} (ha : a < nodes.length) (hp : paths[a]? = some rs[k].inn) :
    TrieG rs (k + 1) 0 (nodes.set a { nodes[a] with rule := (k : Int) }) paths := by
  have hpl := h.len
  obtain ⟨nodes', hN⟩ : ∃ n, n = nodes.set a { nodes[a] with rule := (k : Int) } := ⟨_, rfl⟩
  rw [← hN]
  have hlen : nodes'.length = nodes.length := by rw [hN]; simp
  have hold : ∀ (i : Nat) (hi : i < nodes.length), i ≠ a → nodes'[i]'(by omega) = nodes[i] := fun i hi hne => by simp only [hN]; rw [List.getElem_set_ne (by omega)]
  have hat : nodes'[a]'(by omega) = { nodes[a] with rule := (k : Int) } := by simp only [hN]; rw [List.getElem_set_self]
  clear hN
  have hbro : ∀ (i : Nat) (hi : i < nodes.length), ∃ hi' : i < nodes'.length, nodes'[i].brother = nodes[i].brother := fun i hi => by
    by_cases he : i = a
    · subst he; exact ⟨by omega, by rw [hat]⟩
    · exact ⟨by omega, by rw [hold i hi he]⟩
  have hkid : ∀ (i : Nat) (hi : i < nodes.length) (hi' : i < nodes'.length), nodes'[i].kid = nodes[i].kid ∧ nodes'[i].unit = nodes[i].unit := fun i hi _ => by
    by_cases he : i = a
    · subst he; rw [hat]; exact ⟨rfl, rfl⟩
    · rw [hold i hi he]; exact ⟨rfl, rfl⟩
  refine ⟨by omega, h.root, h.nodup, ?_, ?_, ?_, ?_, ?_⟩
  · intro b hb p hbp
    obtain ⟨l, hl, hm⟩ := h.chain b (by omega) p hbp
    exact ⟨l, by rw [(hkid b (by omega) hb).1]; exact hl.congr hbro, hm⟩
  · intro b hb p u hbp
    rw [(hkid b (by omega) hb).2]
    exact h.unit b (by omega) p u hbp
  · intro b hb p hbp
    by_cases he : b = a
    · subst he
      rw [hp] at hbp
      exact .inr ⟨k, hk, by omega, by rw [hat], Option.some.inj hbp⟩
    · rw [hold b (by omega) he]
      rcases h.rule b (by omega) p hbp with ⟨h1, h2⟩ | ⟨i, hi, h1, h2, h3⟩
      · refine .inl ⟨h1, fun i hi hik hc => ?_⟩
        by_cases hq : i < k
        · exact h2 i hi hq hc
        · have : i = k := by omega
          subst this
          rw [hc] at hp
          exact he (h.nodup b a p hbp hp)
      · exact .inr ⟨i, hi, by omega, h2, h3⟩
  · intro i hi p hpp hc
    rcases hc with hc | ⟨hc, hc2⟩
    · refine h.all i hi p hpp ?_
      by_cases hq : i < k
      · exact .inl hq
      · refine .inr ⟨by omega, ?_⟩
        have : i = k := by omega
        subst this
        have := hpp.length_le
        omega
    · have : p = [] := List.eq_nil_of_length_eq_zero (by omega)
      rw [this]
      exact List.mem_of_getElem? h.root
  · intro p hpp
    exact (h.only p hpp).imp id fun ⟨i, hi, hc, hpp⟩ => ⟨i, hi, by omega, hpp⟩
/-- The trie's longest rule is the rules'. -/
theorem TrieG.long (hr : RightR rs) (h : TrieG rs rs.length 0 nodes paths) {kids : Nat → List Nat} (hkids : ∀ (a : Nat) (ha : a < nodes.length), Chain nodes nodes[a].kid (kids a)) (us : List Int) :
    ∀ (m i : Nat) (k n : Int) (a : Nat), us.length - i ≤ m → i ≤ us.length → paths[a]? = some (us.take i) → IsLong rs (us.take i) k n → longT nodes kids (us.drop i) i k n a = ((longestP rs us).1, (longestP rs us).2, openP rs us) := by
  have hall : ∀ r ∈ rs, ∀ p, p <+: r.inn → p ∈ paths := fun r hr' p hp => by
    obtain ⟨i, hi, rfl⟩ := List.mem_iff_getElem.1 hr'
    exact h.all i hi p hp (.inl hi)
  have honly : ∀ p ∈ paths, p ≠ [] → ∃ r ∈ rs, p <+: r.inn := fun p hp hne => by
    rcases h.only p hp with h1 | ⟨i, hi, _, h1⟩
    · exact absurd h1 hne
    · exact ⟨_, List.getElem_mem hi, h1⟩
  intro m
  induction m with
  | zero =>
    intro i k n a hm hi hp hl
    have hie : i = us.length := by omega
    subst hie
    rw [List.take_length] at hp hl
    rw [List.drop_length]
    have ha : a < nodes.length := by rw [← h.len]; exact (List.getElem?_eq_some_iff.1 hp).1
    rw [longT_end ha]
    have h1 := IsLong.eqP hr hl
    have h2 : (!decide (nodes[a].kid = 0)) = openP rs us := by
      obtain ⟨l, hc, hm⟩ := h.chain a ha us hp
      rw [Bool.eq_iff_iff, openP_iff]
      simp only [Bool.not_eq_true', decide_eq_false_iff_not, hc.zero]
      constructor
      · intro hne
        obtain ⟨b, hb⟩ := List.exists_mem_of_ne_nil l hne
        obtain ⟨u, hu⟩ := (hm b).1 hb
        obtain ⟨r, hr', hpp⟩ := honly _ (List.mem_of_getElem? hu) (by simp)
        refine ⟨r, hr', List.IsPrefix.trans (List.prefix_append _ _) hpp, ?_⟩
        have := hpp.length_le
        simp at this; omega
      · rintro ⟨r, hr', hpp, hlt⟩ he
        have hx : us ++ [r.inn[us.length]] <+: r.inn := by
          rw [List.prefix_iff_eq_take] at hpp ⊢
          simp only [List.length_append, List.length_cons, List.length_nil]
          rw [List.take_succ_eq_append_getElem hlt, ← hpp]
        obtain ⟨b, hb⟩ := List.mem_iff_getElem?.1 (hall r hr' _ hx)
        have := (hm b).2 ⟨_, hb⟩
        rw [he] at this
        simp at this
    rw [h2, ← h1]
  | succ m ih =>
    intro i k n a hm hi hp hl
    by_cases hie : us.length ≤ i
    · exact ih i k n a (by omega) hi hp hl
    · have hi2 : i < us.length := by omega
      have ha : a < nodes.length := by rw [← h.len]; exact (List.getElem?_eq_some_iff.1 hp).1
      have htk : us.take i ++ [us[i]] = us.take (i + 1) := (List.take_succ_eq_append_getElem hi2).symm
      have hf := h.find ha hp (hkids a ha) us[i]
      rw [htk] at hf
      cases hfd : (kids a).find? (unitAt nodes us[i]) with
      | none =>
        rw [longT_none hi2 hfd]
        have hno := hf.2 hfd
        have hshort : ∀ r ∈ rs, us.take (i + 1) <+: r.inn → False := fun r hr' hpp => hno (hall r hr' _ hpp)
        have hkey : ∀ r ∈ rs, r.inn <+: us → r.inn <+: us.take i := fun r hr' hpp => by
          by_cases hle : r.inn.length ≤ i
          · exact List.prefix_of_prefix_length_le hpp (List.take_prefix _ _) (by simp; omega)
          · exfalso
            refine hno (hall r hr' _ ?_)
            exact List.prefix_of_prefix_length_le (List.take_prefix _ _) hpp (by simp; omega)
        have hlong : IsLong rs us k n := by
          rcases hl with ⟨h1, h2, h3⟩ | ⟨x, hx, h1, h2, h3, h4⟩
          · exact .inl ⟨h1, h2, fun r hr' hpp => h3 r hr' (hkey r hr' hpp)⟩
          · exact .inr ⟨x, hx, h1, h2, h3.trans (List.take_prefix _ _), fun r hr' hpp => h4 r hr' (hkey r hr' hpp)⟩
        have hopen : openP rs us = false := by
          cases ho : openP rs us with
          | false => rfl
          | true =>
            obtain ⟨r, hr', hpp, _⟩ := openP_iff.1 ho
            exact (hshort r hr' (List.IsPrefix.trans (List.take_prefix _ _) hpp)).elim
        rw [hopen, ← IsLong.eqP hr hlong]
      | some b =>
        obtain ⟨hb, hbl⟩ := hf.1 b hfd
        rw [longT_some hi2 hfd hbl]
        have hlen1 : (us.take (i + 1)).length = i + 1 := by simp; omega
        rcases h.rule b hbl _ hb with ⟨h1, h2⟩ | ⟨x, hx, _, h1, h2⟩
        · rw [if_neg (by omega)]
          refine ih (i + 1) k n b (by omega) (by omega) hb ?_
          have hkey : ∀ r ∈ rs, r.inn <+: us.take (i + 1) → r.inn <+: us.take i := fun r hr' hpp => by
            have hle := hpp.length_le
            by_cases he : r.inn.length = i + 1
            · obtain ⟨y, hy, rfl⟩ := List.mem_iff_getElem.1 hr'
              exact absurd (prefix_eq hpp (List.prefix_refl _) (by omega)) (h2 y hy hy)
            · exact List.prefix_of_prefix_length_le (hpp.trans (List.take_prefix _ us)) (List.take_prefix _ us) (by simp; omega)
          rcases hl with ⟨h3, h4, h5⟩ | ⟨y, hy, h3, h4, h5, h6⟩
          · exact .inl ⟨h3, h4, fun r hr' hpp => h5 r hr' (hkey r hr' hpp)⟩
          · exact .inr ⟨y, hy, h3, h4, h5.trans (List.take_prefix_take_left (by omega)), fun r hr' hpp => h6 r hr' (hkey r hr' hpp)⟩
        · rw [if_pos (by omega), h1]
          refine ih (i + 1) _ _ b (by omega) (by omega) hb (.inr ⟨x, hx, rfl, by rw [h2, hlen1]; rfl, by rw [h2]; exact List.prefix_refl _, fun r hr' hpp => by have := hpp.length_le; rw [h2]; exact this⟩)
end build
end Go.Proofs.Ytgbajkdomcmblaa
