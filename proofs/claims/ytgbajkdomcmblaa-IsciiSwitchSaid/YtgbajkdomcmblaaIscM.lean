/- Plain laws of ISCII: where a switch stands; consonants in each script. -/
import Derived.Test.YtgbajkdomcmblaaIscK
namespace Go.Proofs.Ytgbajkdomcmblaa
open Go Go.RowKit Vc
set_option linter.unusedVariables false
set_option linter.unusedSimpArgs false
def isSw (x : PTok) : Bool := decide (x.out.length = 2) && decide (x.out.getD 0 0 = 239)
def swIdx (x : PTok) : Int := (codesL.findIdx fun c => decide (c = x.out.getD 1 0) : Nat)
def nowStep (n : Int) (x : PTok) : Int := if isSw x then swIdx x else n
/-- The script behind tokens. -/
def nowF (ts : List PTok) : Int := ts.foldl nowStep 0
theorem nowF_append (a b : List PTok) : nowF (a ++ b) = b.foldl nowStep (nowF a) := by unfold nowF; rw [List.foldl_append]
theorem now_plain : ∀ (b : List PTok) (n : Int), (∀ y ∈ b, isSw y = false) → b.foldl nowStep n = n
  | [], n, _ => rfl
  | y :: b, n, h => by
    rw [List.foldl_cons, show nowStep n y = n by unfold nowStep; rw [h y (by simp)]; rfl]
    exact now_plain b n fun z hz => h z (by simp [hz])
/-- Switches stand where the script turns. -/
def SwI (ts : List PTok) : Prop := ∀ i (h : i < ts.length), isSw ts[i] = true → ∃ s : Int, 0 ≤ s ∧ s < 9 ∧ ts[i].out = [239, codesL.getD s.toNat 0] ∧ s ≠ nowF (ts.take i) ∧ ts[i].len = 0
theorem SwI.plain {a b : List PTok} (h : SwI a) (hb : ∀ y ∈ b, isSw y = false) : SwI (a ++ b) := by
  intro i hi hs
  by_cases hl : i < a.length
  · rw [List.getElem_append_left hl] at hs ⊢
    rw [List.take_append_of_le_length (by omega)]
    exact h i hl hs
  · rw [List.getElem_append_right (by omega)] at hs
    rw [hb _ (List.getElem_mem _)] at hs
    cases hs
theorem sw_tok (n : Int) {s : Int} (h0 : 0 ≤ s) (h9 : s < 9) : isSw (switchTok n s) = true ∧ swIdx (switchTok n s) = s := by
  have hk : ∀ k, k < 9 → ((codesL.findIdx fun c => decide (c = codesL.getD k 0) : Nat) : Int) = (k : Int) := by decide
  refine ⟨rfl, ?_⟩
  have := hk s.toNat (by omega)
  unfold swIdx switchTok
  show ((codesL.findIdx fun c => decide (c = codesL.getD s.toNat 0) : Nat) : Int) = s
  omega
theorem SwI.switch {a : List PTok} (h : SwI a) (n : Int) {s : Int} (h0 : 0 ≤ s) (h9 : s < 9) (hne : s ≠ nowF a) : SwI (a ++ [switchTok n s]) := by
  intro i hi hs
  by_cases hl : i < a.length
  · rw [List.getElem_append_left hl] at hs ⊢
    rw [List.take_append_of_le_length (by omega)]
    exact h i hl hs
  · rw [List.length_append, List.length_cons, List.length_nil] at hi
    have he : i = a.length := by omega
    subst he
    rw [List.getElem_append_right (Nat.le_refl _), List.take_left]
    simp only [Nat.sub_self, List.getElem_cons_zero]
    exact ⟨s, h0, h9, rfl, hne, rfl⟩
/-- Units of places and scalars: none of a switch. -/
def plainU (u : Int) : Prop := u < 4096 ∨ 8192 ≤ u
theorem unit_plain (x : Int) : plainU (unitOf x) := by
  unfold unitOf plainU
  cases hb : scalarB x with
  | false => left; simp
  | true =>
    have hr := scalar_range hb
    cases hi : indIs x with
    | false => right; simp only [if_true, Bool.false_eq_true, if_false]; omega
    | true => have hs := script_range hi; left; simp only [if_true]; omega
theorem sw_rules : indR.all (fun r => !(decide (r.inn.length = 2) && decide (r.inn.getD 0 0 = 239)) || (decide (4096 ≤ r.out.getD 0 0) && decide (r.out.getD 0 0 < 8192) && decide (0 < r.out.length))) = true := by kernel_rfl
theorem tok_plain {us : List Int} (hu : ∀ u ∈ us, plainU u) (a : Int) (ah : List Int) : isSw (joinTok indR ah (tokP (turnP indR) us a)) = false := by
  have h0 : isSw (tokP (turnP indR) us a) = false := by
    by_cases he : (tokP (turnP indR) us a).err = 0
    · obtain ⟨r, hr, ho, hus, _⟩ := tok_rule indR_good he
      have h1 := List.all_eq_true.1 sw_rules r hr
      unfold isSw
      rw [ho]
      cases hc : (decide (r.inn.length = 2) && decide (r.inn.getD 0 0 = 239)) with
      | false => rfl
      | true =>
        exfalso
        rw [hc] at h1
        simp only [Bool.not_true, Bool.false_or, Bool.and_eq_true, decide_eq_true_eq] at h1
        have h2 : r.out.getD 0 0 ∈ us := by
          rw [hus]
          apply List.mem_append_left
          rw [List.getD_eq_getElem?_getD, List.getElem?_eq_getElem h1.2]
          exact List.getElem_mem _
        have h3 := hu _ h2
        unfold plainU at h3
        omega
    · unfold isSw
      have : (tokP (turnP indR) us a).out = [] := by
        unfold tokP at he ⊢
        split
        · rfl
        · rename_i h9; rw [if_neg h9] at he; exact absurd rfl he
      rw [this]; rfl
  unfold joinTok
  split
  · rfl
  · exact h0
theorem enc_plain : ∀ (m : Nat) (us : List Int) (a : Int) (ah : List Int), us.length ≤ m → (∀ u ∈ us, plainU u) → ∀ y ∈ (joinP indR ah (batchP (turnP indR) us a)).1, isSw y = false
  | 0, us, a, ah, h, _ => by
    have : us = [] := List.eq_nil_of_length_eq_zero (by omega)
    subst this
    simp [batch_nil, joinP]
  | m + 1, us, a, ah, h, hu => by
    by_cases hn : us = []
    · subst hn; simp [batch_nil, joinP]
    · intro y hy
      rw [batch_cons _ hn, joinP] at hy
      rcases List.mem_cons.1 hy with rfl | hy
      · exact tok_plain hu a ah
      · have h1 := tok_pos (turnP indR) us a
        have h2 := List.length_pos_iff.2 hn
        exact enc_plain m _ _ _ (by simp only [List.length_drop]; omega) (fun u hv => hu u (List.mem_of_mem_drop hv)) y hy
theorem encP_plain {us : List Int} (hu : ∀ u ∈ us, plainU u) (d : Int) : ∀ y ∈ (encP us).map (shift d), isSw y = false := by
  intro y hy
  obtain ⟨z, hz, rfl⟩ := List.mem_map.1 hy
  exact enc_plain _ us 0 [] (Nat.le_refl _) hu z hz
structure SwQ (q : LEnc) : Prop where
  sw : SwI q.ou
  now : nowF q.ou = q.sc
  us : ∀ u ∈ q.us, plainU u
  ne : q.us = [] → q.ou = []
theorem SwQ.step {q : LEnc} (h : SwQ q) (n x : Int) : SwQ (lstep q n x) := by
  unfold lstep
  split
  · rename_i hc
    rw [Bool.and_eq_true, decide_eq_true_eq] at hc
    have hs := script_range hc.1
    have hp := encP_plain h.us q.fr
    have hn : nowF (q.ou ++ (encP q.us).map (shift q.fr)) = q.sc := by rw [nowF_append, now_plain _ _ hp, h.now]
    have ht := sw_tok n hs.1 hs.2.1
    refine ⟨(h.sw.plain hp).switch n hs.1 hs.2.1 (by rw [hn]; exact hc.2), ?_, ?_, by simp⟩
    · simp only []
      rw [nowF_append]
      simp only [List.foldl_cons, List.foldl_nil]
      unfold nowStep
      rw [ht.1, ht.2]; rfl
    · intro u hu
      rw [List.mem_singleton.1 hu]
      exact unit_plain x
  · refine ⟨h.sw, h.now, ?_, by simp⟩
    intro u hu
    rcases List.mem_append.1 hu with hu | hu
    · exact h.us u hu
    · rw [List.mem_singleton.1 hu]; exact unit_plain x
theorem swq_run : ∀ (l : List Int) (n : Int) {q : LEnc}, SwQ q → SwQ (lrun l n q)
  | [], n, q, h => h
  | x :: l, n, q, h => swq_run l (n + 1) (h.step n x)
/-- A switch stands where the script turns, none at the end. -/
theorem switch_law (l : List Int) : SwI (lawEnc l).ou ∧ nowF (lawEnc l).ou = (lawEnc l).sc ∧ ∀ i (h : i < (lawEnc l).ou.length), isSw (lawEnc l).ou[i] = true → i + 1 < (lawEnc l).ou.length := by
  have hq : lawEnc l = restP (lrun l 0 l0) := rfl
  have h := swq_run l 0 (q := l0) ⟨fun i hi => absurd hi (by simp [l0]), rfl, by simp [l0], fun _ => rfl⟩
  rw [hq]
  generalize lrun l 0 l0 = q at *
  have hp := encP_plain h.us q.fr
  refine ⟨h.sw.plain hp, by simp only [restP]; rw [nowF_append, now_plain _ _ hp, h.now], ?_⟩
  simp only [restP]
  intro i hi hs
  by_cases hl : i < q.ou.length
  · have hne : q.us ≠ [] := fun he => by rw [h.ne he] at hl; simp at hl
    have h1 : 0 < (encP q.us).length := by
      unfold encP
      rw [join_len, batch_cons _ hne]; simp
    rw [List.length_append, List.length_map]
    omega
  · rw [List.getElem_append_right (by omega)] at hs
    rw [hp _ (List.getElem_mem _)] at hs
    cases hs
/-! Consonants in each script. -/
theorem lrun_same : ∀ (l : List Int) (n : Int) (q : LEnc), (∀ x ∈ l, indScript x = q.sc) → lrun l n q = ⟨q.ou, q.fr, q.us ++ l.map unitOf, q.sc⟩
  | [], n, q, _ => by simp [lrun]
  | x :: l, n, q, h => by
    have hx := h x (by simp)
    have h1 : lstep q n x = ⟨q.ou, q.fr, q.us ++ [unitOf x], q.sc⟩ := by
      unfold lstep
      rw [if_neg]
      rw [Bool.and_eq_true, decide_eq_true_eq]
      exact fun h => h.2 hx
    simp only [lrun, h1]
    rw [lrun_same l (n + 1) ⟨q.ou, q.fr, q.us ++ [unitOf x], q.sc⟩ fun y hy => h y (by simp [hy])]
    simp
def consOf (s b : Int) : Int := 2325 + 128 * s + b % 20
theorem cons_facts {s b : Int} (h0 : 0 ≤ s) (h9 : s < 9) : indIs (consOf s b) = true ∧ indScript (consOf s b) = s ∧ unitOf (consOf s b) = 21 + b % 20 := by
  have h1 : 0 ≤ b % 20 ∧ b % 20 < 20 := by omega
  have hi : indIs (consOf s b) = true := by
    unfold indIs consOf
    rw [Bool.not_eq_true', Bool.or_eq_false_iff, Bool.or_eq_false_iff, decide_eq_false_iff_not, decide_eq_false_iff_not, decide_eq_false_iff_not]
    omega
  have hsb : scalarB (consOf s b) = true := by
    unfold scalarB consOf
    simp only [Bool.and_eq_true, Bool.or_eq_true, decide_eq_true_eq]
    omega
  refine ⟨hi, by unfold indScript consOf; omega, ?_⟩
  unfold unitOf
  rw [hsb, hi]
  simp only [if_true]
  unfold indPlace consOf
  omega
/-- The units of consonants, whatever the script. -/
def consU (l : List Int) : List Int := l.map fun b => 21 + b % 20
theorem cons_law {s : Int} (h0 : 0 ≤ s) (h9 : s < 9) (l : List Int) : outs (lawEnc (l.map (consOf s))).ou = (if 0 < s ∧ 0 < l.length then [239, codesL.getD s.toNat 0] else []) ++ outs (encP (consU l)) := by
  have hu : (l.map (consOf s)).map unitOf = consU l := by
    rw [List.map_map]
    exact List.map_congr_left fun b _ => (cons_facts h0 h9).2.2
  unfold lawEnc
  by_cases hs : 0 < s
  · cases l with
    | nil => simp [lrun, restP, consU, outs_append, outs_shift]
    | cons b l =>
      rw [if_pos ⟨hs, by simp⟩]
      have hc := cons_facts (b := b) h0 h9
      have h1 : lstep ⟨[], 0, [], 0⟩ 0 (consOf s b) = ⟨[] ++ (encP []).map (shift 0) ++ [switchTok 0 s], 0 + (([] : List Int).length : Int), [unitOf (consOf s b)], s⟩ := by
        unfold lstep
        rw [if_pos (by rw [hc.1, hc.2.1, Bool.true_and, decide_eq_true_eq]; simp only []; omega), hc.2.1]
      rw [List.map_cons]
      simp only [lrun]
      rw [h1, lrun_same _ _ _ (fun x hx => by obtain ⟨c, _, rfl⟩ := List.mem_map.1 hx; exact (cons_facts h0 h9).2.1)]
      simp only [restP, outs_append, outs_shift]
      rw [← hu]
      have h2 : outs (encP []) = [] := by unfold encP; rw [batch_nil]; rfl
      rw [h2]
      rfl
  · have hs0 : s = 0 := by omega
    subst hs0
    rw [if_neg (by omega), lrun_same _ _ _ (fun x hx => by obtain ⟨c, _, rfl⟩ := List.mem_map.1 hx; exact (cons_facts h0 h9).2.1)]
    simp only [restP, outs_append, outs_shift]
    rw [List.nil_append, hu]
    rfl
end Go.Proofs.Ytgbajkdomcmblaa
