/- Plain laws of layer 16: what comes one by one is what comes of all. -/
import Derived.Test.YtgbajkdomcmblaaMachS
namespace Go.Proofs.Ytgbajkdomcmblaa
open Go Go.RowKit Vc
set_option linter.unusedVariables false
set_option linter.unusedSimpArgs false
theorem run_match {rs : List PRule} (hr : RightR rs) : ∀ (us : List Int) (s : List Int × Int),
    batchP rs (s.1 ++ us) s.2 = (runP (matchPut rs) us s).1 ++ batchP rs (runP (matchPut rs) us s).2.1 (runP (matchPut rs) us s).2.2 ∧ (runP (matchPut rs) us s).2.2 + (runP (matchPut rs) us s).2.1.length = s.2 + s.1.length + us.length
  | [], s => by simp [runP]
  | u :: us, s => by
    have h1 := take_batch hr us _ (s.1 ++ [u]) s.2 (Nat.le_refl _)
    have h2 := take_wait hr false _ (s.1 ++ [u]) s.2 (Nat.le_refl _)
    obtain ⟨h3, h4⟩ := run_match hr us (matchPut rs s u).2
    simp only [List.append_assoc, List.cons_append, List.nil_append] at h1
    simp only [List.length_append, List.length_cons, List.length_nil] at h2
    simp only [runP]
    constructor
    · rw [h1, List.append_assoc]
      congr 1
    · rw [h4]
      have h5 := h2.1
      simp only [matchPut, List.length_cons] at *
      omega
theorem all_match {rs : List PRule} (hr : RightR rs) (us : List Int) (a : Int) : allP (matchPut rs) (matchFin rs) us ([], a) = (batchP rs us a, ([], a + us.length)) := by
  obtain ⟨h1, h2⟩ := run_match hr us ([], a)
  simp only [List.nil_append, List.length_nil] at h1 h2
  have h3 := take_end hr _ (runP (matchPut rs) us ([], a)).2.1 (runP (matchPut rs) us ([], a)).2.2 (Nat.le_refl _)
  simp only [allP, matchFin, h3, ← h1]
  congr 2
  omega
theorem run_enc (rs : List PRule) : ∀ (us : List Int) (s : EncS), runP (encPut rs) us s = encTake rs s (runP (matchPut (turnP rs)) us (s.wait, s.a))
  | [], s => by simp [runP, encTake, joinP]
  | u :: us, s => by
    simp only [runP, run_enc rs us, encPut, encTake, matchPut, join_append]
theorem all_enc {rs : List PRule} (hg : GoodR rs) (us : List Int) (a : Int) (ah : List Int) : allP (encPut rs) (encFin rs) us ⟨[], a, ah⟩ = ((joinP rs ah (batchP (turnP rs) us a)).1, ⟨[], a + us.length, (joinP rs ah (batchP (turnP rs) us a)).2⟩) := by
  have h := all_match hg.turn.right us a
  simp only [allP, run_enc, encFin, encTake, matchFin, Prod.mk.injEq] at h ⊢
  obtain ⟨h1, h2⟩ := h
  have h3 : (takeP (turnP rs) true (runP (matchPut (turnP rs)) us ([], a)).2.1 (runP (matchPut (turnP rs)) us ([], a)).2.2).2.1 = [] := by rw [h2]
  have h4 : (takeP (turnP rs) true (runP (matchPut (turnP rs)) us ([], a)).2.1 (runP (matchPut (turnP rs)) us ([], a)).2.2).2.2 = a + us.length := by rw [h2]
  refine ⟨?_, ?_⟩
  · rw [← h1, join_append]
  · rw [h3, h4, ← h1, join_append]
theorem toks_pos {rs : List PRule} (e : Bool) : ∀ (m : Nat) (us : List Int) (a : Int), us.length ≤ m → ∀ x ∈ (takeP rs e us a).1, 1 ≤ x.len
  | 0, us, a, h => by
    have : us = [] := List.eq_nil_of_length_eq_zero (by omega)
    subst this
    simp [take_nil]
  | m + 1, us, a, h => by
    intro x hx
    by_cases hu : us = []
    · subst hu; simp [take_nil] at hx
    · cases ho : openP rs us && !e with
      | true => rw [take_open hu ho] at hx; simp at hx
      | false =>
        rw [take_cons hu ho] at hx
        have h1 := tok_pos rs us a
        have h2 := List.length_pos_iff.2 hu
        rcases List.mem_cons.1 hx with rfl | hx
        · exact h1
        · exact toks_pos e m _ _ (by simp only [List.length_drop]; omega) x hx
/-- How much is told so far. -/
def lens (ts : List PTok) : Int := (ts.map PTok.len).sum
theorem lens_take_succ {ts : List PTok} {j : Nat} (hj : j < ts.length) : lens (ts.take (j + 1)) = lens (ts.take j) + ts[j].len := by
  unfold lens
  rw [List.take_succ_eq_append_getElem hj, List.map_append, List.sum_append]
  simp
theorem lens_nonneg : ∀ (ts : List PTok), (∀ x ∈ ts, 1 ≤ x.len) → 0 ≤ lens ts
  | [], _ => by simp [lens]
  | x :: l, h => by
    have h1 := lens_nonneg l fun y hy => h y (by simp [hy])
    have h2 := h x (by simp)
    simp only [lens, List.map_cons, List.sum_cons] at *
    omega
theorem lens_le {ts : List PTok} (h : ∀ x ∈ ts, 1 ≤ x.len) (j : Nat) : 0 ≤ lens (ts.take j) ∧ lens (ts.take j) ≤ lens ts := by
  refine ⟨lens_nonneg _ fun x hx => h x (List.mem_of_mem_take hx), ?_⟩
  have h1 : lens ts = lens (ts.take j) + lens (ts.drop j) := by
    unfold lens
    rw [← List.sum_append, ← List.map_append, List.take_append_drop]
  have h2 := lens_nonneg (ts.drop j) fun x hx => h x (List.mem_of_mem_drop hx)
  omega
theorem longP_fold (rs : List PRule) : ∀ (n : Int), n ≤ rs.foldl (fun n r => max n (r.inn.length : Int)) n ∧ ∀ r ∈ rs, (r.inn.length : Int) ≤ rs.foldl (fun n r => max n (r.inn.length : Int)) n := by
  induction rs with
  | nil => intro n; simp
  | cons x l ih =>
    intro n
    obtain ⟨h1, h2⟩ := ih (max n (x.inn.length : Int))
    rw [List.foldl_cons]
    refine ⟨by omega, fun r hr => ?_⟩
    rcases List.mem_cons.1 hr with rfl | hr
    · omega
    · exact h2 r hr
theorem longP_ge {rs : List PRule} {r : PRule} (h : r ∈ rs) : (r.inn.length : Int) ≤ longP rs := (longP_fold rs 0).2 r h
/-- Fewer wait than the longest rule has. -/
theorem wait_few {rs : List PRule} {us : List Int} (h : us = [] ∨ openP rs us = true) : (us.length : Int) < max 1 (longP rs) := by
  rcases h with rfl | h
  · simp; omega
  · obtain ⟨r, hr, _, hl⟩ := openP_iff.1 h
    have := longP_ge hr
    omega
end Go.Proofs.Ytgbajkdomcmblaa
