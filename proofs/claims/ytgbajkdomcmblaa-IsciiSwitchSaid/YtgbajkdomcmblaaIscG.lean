/- Plain laws of ISCII: what comes one by one is what comes of all. -/
import Derived.Test.YtgbajkdomcmblaaIscF
namespace Go.Proofs.Ytgbajkdomcmblaa
open Go Go.RowKit Vc
set_option linter.unusedVariables false
set_option linter.unusedSimpArgs false
/-! The decoder. -/
def dec0 : IDec := ⟨([], 0), 0⟩
theorem run_idec : ∀ (us : List Int) (s : IDec), runP idecPut us s = decStep s (runP (matchPut indR) us s.m)
  | [], s => by simp [runP, decStep, meanT]
  | u :: us, s => by
    simp only [runP, run_idec us, idecPut, decStep, meanT_append]
theorem all_idec (us : List Int) : allP idecPut idecFin us dec0 = ((meanT 0 (batchP indR us 0)).1, ⟨([], (us.length : Int)), (meanT 0 (batchP indR us 0)).2⟩) := by
  have h := all_match indR_good.right us 0
  simp only [allP, Prod.mk.injEq] at h
  obtain ⟨h1, h2⟩ := h
  simp only [allP, run_idec, idecFin, decStep, dec0]
  have h3 := meanT_append (runP (matchPut indR) us ([], 0)).1 (matchFin indR (runP (matchPut indR) us ([], 0)).2).1 0
  rw [h1] at h3
  rw [h3, h2]
  simp
theorem mean_outs : ∀ (l : List PTok) (sc : Int), (∀ x ∈ l, x.out.length ≤ 8) → ∀ x ∈ (meanT sc l).1, x.out.length ≤ 8
  | [], _, _ => by simp [meanT]
  | y :: l, sc, h => by
    intro x hx
    simp only [meanT, List.mem_cons] at hx
    rcases hx with rfl | hx
    · have h8 := meanUs_len y.out sc
      have h9 := h y (by simp)
      show (meanUs sc y.out).1.length ≤ 8
      omega
    · exact mean_outs l _ (fun z hz => h z (by simp [hz])) x hx
theorem idec_facts {us : List Int} {T : List PTok} {s : IDec} (h : runP idecPut us dec0 = (T, s)) : 0 ≤ s.m.2 ∧ s.m.2 + s.m.1.length = us.length ∧ 0 ≤ s.sc ∧ s.sc ≤ 10000 ∧ T.length ≤ us.length ∧ (∀ x ∈ T, x.out.length ≤ 8) ∧ (s.m.1 = [] ∨ openP indR s.m.1 = true) := by
  rw [run_idec] at h
  obtain ⟨rfl, rfl⟩ := Prod.mk.inj h
  have h1 := run_facts (T := (runP (matchPut indR) us ([], 0)).1) (s := (runP (matchPut indR) us ([], 0)).2) indR_good rfl
  obtain ⟨h2, h3⟩ := run_match indR_good.right us ([], 0)
  obtain ⟨h4, h5⟩ := batch_facts indR_good us 0
  have h6 := batch_uok us
  simp only [List.nil_append] at h2
  rw [h2] at h4 h5 h6
  have h7 := meanT_sc (runP (matchPut indR) us ([], 0)).1 (sc := 0) (by omega) (by omega) fun x hx => h6 x (by simp [hx])
  simp only [dec0, decStep]
  refine ⟨h1.1, h1.2.1, h7.1, h7.2, ?_, ?_, ?_⟩
  · rw [meanT_len]; simp only [List.length_append] at h4; omega
  · exact mean_outs _ _ fun x hx => h5 x (by simp [hx])
  · have : ∀ (us : List Int) (s : List Int × Int), (s.1 = [] ∨ openP indR s.1 = true) → ((runP (matchPut indR) us s).2.1 = [] ∨ openP indR (runP (matchPut indR) us s).2.1 = true) := by
      intro us
      induction us with
      | nil => intro s h; exact h
      | cons u us ih => intro s _; exact ih _ (match_facts indR_good.right s u).2.1
    exact this us ([], 0) (.inl rfl)
theorem idec_ok {us : List Int} {T : List PTok} {s : IDec} (h : runP idecPut us dec0 = (T, s)) {n : Nat} (hn : us.length + n ≤ 100000000) : idecOk s n := by
  have h1 := idec_facts h
  exact ⟨⟨h1.1, by omega⟩, h1.2.2.1, h1.2.2.2.1⟩
/-! The encoder. -/
def enc0 : IEnc := ⟨⟨[], 0, []⟩, 0, 0⟩
def l0 : LEnc := ⟨[], 0, [], 0⟩
/-- What the encoder is behind a run, told by the laws'. -/
structure Follows (T : List PTok) (s : IEnc) (q : LEnc) : Prop where
  sc : s.sc = q.sc
  e : (runP (encPut indR) q.us ⟨[], q.fr, []⟩).2 = s.e
  out : T = q.ou ++ (runP (encPut indR) q.us ⟨[], q.fr, []⟩).1
theorem encP_shift (us : List Int) (fr : Int) : (joinP indR [] (batchP (turnP indR) us fr)).1 = (encP us).map (shift fr) := by
  have h := apart_eq indR us 0 fr
  rw [Int.zero_add] at h
  exact h
theorem Follows.fin {T : List PTok} {s : IEnc} {q : LEnc} (h : Follows T s q) : T ++ (encFin indR s.e).1 = q.ou ++ (encP q.us).map (shift q.fr) ∧ apartS (encFin indR s.e).2 = ⟨[], q.fr + q.us.length, []⟩ ∧ (encFin indR s.e).2.wait = [] := by
  have h1 := all_enc indR_good q.us q.fr []
  simp only [allP, Prod.mk.injEq] at h1
  rw [h.e, encP_shift] at h1
  refine ⟨?_, ?_, ?_⟩
  · rw [h.out, List.append_assoc, h1.1]
  · rw [h1.2]; rfl
  · rw [h1.2]
theorem Follows.put {T : List PTok} {s : IEnc} {q : LEnc} (h : Follows T s q) {n x : Int} (hn : s.n = n) : Follows (T ++ (iencPut s x).1) (iencPut s x).2 (lstep q n x) := by
  unfold iencPut lstep
  rw [h.sc]
  split
  · obtain ⟨h1, h2, h3⟩ := h.fin
    refine ⟨rfl, ?_, ?_⟩
    · simp only [ienSwitch, runP]; rw [h2]
    · simp only [ienSwitch, runP, List.append_nil]
      rw [h2, hn, ← List.append_assoc, ← List.append_assoc, h1]
  · refine ⟨h.sc, ?_, ?_⟩
    · simp only [ienPlain, run_append, runP]; rw [h.e]
    · simp only [ienPlain, run_append, runP, List.append_nil]; rw [h.e, h.out, List.append_assoc]
theorem run_ienc : ∀ (l : List Int) {T : List PTok} {s : IEnc} {q : LEnc}, Follows T s q → Follows (T ++ (runP iencPut l s).1) (runP iencPut l s).2 (lrun l s.n q)
  | [], T, s, q, h => by simpa [runP, lrun] using h
  | x :: l, T, s, q, h => by
    have h1 := run_ienc l (h.put (x := x) rfl)
    have h2 : (iencPut s x).2.n = s.n + 1 := by unfold iencPut; split <;> rfl
    simp only [runP, lrun, ← List.append_assoc]
    rw [h2] at h1
    exact h1
theorem follows (l : List Int) : Follows (runP iencPut l enc0).1 (runP iencPut l enc0).2 (lrun l 0 l0) := by
  have h := run_ienc l (T := []) (s := enc0) (q := l0) ⟨rfl, rfl, rfl⟩
  rw [List.nil_append] at h
  exact h
theorem all_ienc (l : List Int) : (allP iencPut iencFin l enc0).1 = (lawEnc l).ou ∧ (allP iencPut iencFin l enc0).2.sc = (lawEnc l).sc ∧ (allP iencPut iencFin l enc0).2.e.wait = [] := by
  have h := follows l
  obtain ⟨h1, h2, h3⟩ := h.fin
  refine ⟨?_, ?_, ?_⟩
  · simp only [allP, iencFin]; exact h1
  · simp only [allP, iencFin]; exact h.sc
  · simp only [allP, iencFin]; exact h3
theorem lrun_facts (l : List Int) : 0 ≤ (lrun l 0 l0).fr ∧ (lrun l 0 l0).fr + (lrun l 0 l0).us.length = l.length ∧ (lrun l 0 l0).ou.length + (lrun l 0 l0).us.length ≤ 2 * l.length ∧ 0 ≤ (lrun l 0 l0).sc ∧ (lrun l 0 l0).sc ≤ 8 ∧ (∀ x ∈ (lrun l 0 l0).ou, x.out.length ≤ 8) := by
  have key : ∀ k, k ≤ l.length → 0 ≤ (lrun (l.take k) 0 l0).fr ∧ (lrun (l.take k) 0 l0).fr + (lrun (l.take k) 0 l0).us.length = k ∧ (lrun (l.take k) 0 l0).ou.length + (lrun (l.take k) 0 l0).us.length ≤ 2 * k ∧ 0 ≤ (lrun (l.take k) 0 l0).sc ∧ (lrun (l.take k) 0 l0).sc ≤ 8 ∧ (∀ x ∈ (lrun (l.take k) 0 l0).ou, x.out.length ≤ 8) := by
    intro k
    induction k with
    | zero => intro _; simp [lrun, l0]
    | succ k ih =>
      intro hk
      have hkl : k < l.length := by omega
      have hi := ih (by omega)
      rw [lrun_take_succ hkl]
      clear ih
      generalize lrun (l.take k) 0 l0 = q at hi ⊢
      have hl := encP_len q.us
      unfold lstep
      split
      · rename_i hc
        rw [Bool.and_eq_true] at hc
        have hs := script_range hc.1
        refine ⟨by simp only []; omega, by simp only [List.length_cons, List.length_nil]; omega, by simp only [List.length_append, List.length_map, List.length_cons, List.length_nil]; omega, by simp only []; omega, by simp only []; omega, ?_⟩
        intro x hx
        simp only [List.mem_append, List.mem_map, List.mem_singleton] at hx
        rcases hx with (hx | ⟨y, hy, rfl⟩) | rfl
        · exact hi.2.2.2.2.2 x hx
        · exact join_outs indR 8 _ _ (batch_facts indR_good.turn q.us 0).2 y hy
        · simp [switchTok]
      · refine ⟨hi.1, by simp only [List.length_append, List.length_cons, List.length_nil]; omega, by simp only [List.length_append, List.length_cons, List.length_nil]; omega, hi.2.2.2.1, hi.2.2.2.2.1, hi.2.2.2.2.2⟩
  have h := key l.length (Nat.le_refl _)
  rwa [List.take_length] at h
theorem ienc_facts {l : List Int} {T : List PTok} {s : IEnc} (h : runP iencPut l enc0 = (T, s)) : 0 ≤ s.e.a ∧ s.e.a + s.e.wait.length = l.length ∧ s.e.ahead.length ≤ 8 ∧ s.n = l.length ∧ 0 ≤ s.sc ∧ s.sc ≤ 8 ∧ T.length ≤ 2 * l.length ∧ (∀ x ∈ T, x.out.length ≤ 8) ∧ (s.e.wait = [] ∨ openP (turnP indR) s.e.wait = true) := by
  have h1 := follows l
  rw [h] at h1
  simp only [] at h1
  obtain ⟨f1, f2, f3, f4, f5, f6⟩ := lrun_facts l
  have hn : ∀ (l : List Int) (s : IEnc), (runP iencPut l s).2.n = s.n + l.length := by
    intro l
    induction l with
    | nil => intro s; simp [runP]
    | cons x l ih =>
      intro s
      have h2 : (iencPut s x).2.n = s.n + 1 := by unfold iencPut; split <;> rfl
      simp only [runP, ih, h2, List.length_cons]; omega
  have h2 := hn l enc0
  rw [h] at h2
  generalize lrun l 0 l0 = q at *
  have he := run_enc indR q.us ⟨[], q.fr, []⟩
  obtain ⟨m1, m2⟩ := run_match indR_good.turn.right q.us ([], q.fr)
  have m3 := run_pos indR_good.turn.right q.us ([], q.fr)
  obtain ⟨b1, b2⟩ := batch_facts indR_good.turn q.us q.fr
  simp only [List.nil_append, List.length_nil] at m1 m2 m3
  rw [m1] at b1 b2
  simp only [List.length_append] at b1
  have hE := h1.e
  have hT := h1.out
  rw [he] at hE hT
  simp only [encTake] at hE hT
  have hw : ∀ (us : List Int) (s : List Int × Int), (s.1 = [] ∨ openP (turnP indR) s.1 = true) → ((runP (matchPut (turnP indR)) us s).2.1 = [] ∨ openP (turnP indR) (runP (matchPut (turnP indR)) us s).2.1 = true) := by
    intro us
    induction us with
    | nil => intro s h; exact h
    | cons u us ih => intro s _; exact ih _ (match_facts indR_good.turn.right s u).2.1
  rw [← hE]
  refine ⟨by simp only []; omega, by simp only []; omega, ?_, by rw [h2]; simp [enc0], by rw [h1.sc]; exact f4, by rw [h1.sc]; exact f5, ?_, ?_, hw _ _ (.inl rfl)⟩
  · exact join_ahead_len indR 8 _ _ (by simp) fun x hx => b2 x (by simp [hx])
  · rw [hT, List.length_append, join_len]; omega
  · intro x hx
    rw [hT, List.mem_append] at hx
    rcases hx with hx | hx
    · exact f6 x hx
    · exact join_outs indR 8 _ _ (fun y hy => b2 y (by simp [hy])) x hx
theorem ienc_ok {l : List Int} {T : List PTok} {s : IEnc} (h : runP iencPut l enc0 = (T, s)) {n : Nat} (hn : l.length + n ≤ 100000000) : iencOk s n := by
  have h1 := ienc_facts h
  exact ⟨⟨h1.1, by omega, h1.2.2.1⟩, by omega, by omega⟩
theorem ienc_put_facts {us : List Int} {T : List PTok} {s : IEnc} (h : runP iencPut us enc0 = (T, s)) (u : Int) (hl : us.length ≤ 1000000) : (iencPut s u).1.length ≤ 1000000000 ∧ ∀ x ∈ (iencPut s u).1, x.out.length ≤ 8 := by
  have h1 : runP iencPut (us ++ [u]) enc0 = (T ++ (iencPut s u).1, (iencPut s u).2) := by rw [run_append, h]; simp [runP]
  have h2 := ienc_facts h1
  have h3 := h2.2.2.2.2.2.2.1
  simp only [List.length_append, List.length_cons, List.length_nil] at h3
  exact ⟨by omega, fun x hx => h2.2.2.2.2.2.2.2.1 x (by simp [hx])⟩
theorem ienc_fin_facts {us : List Int} {T : List PTok} {s : IEnc} (h : runP iencPut us enc0 = (T, s)) (hl : us.length ≤ 1000000) : (iencFin s).1.length ≤ 1000000000 ∧ ∀ x ∈ (iencFin s).1, x.out.length ≤ 8 := by
  have hf := ienc_facts h
  have h1 := take_wait indR_good.turn.right true _ s.e.wait s.e.a (Nat.le_refl _)
  simp only [iencFin, encFin, encTake]
  refine ⟨by rw [join_len]; omega, ?_⟩
  exact join_outs indR 8 _ _ (EncR.take_outs indR_good.turn true _ _ _ (Nat.le_refl _))
end Go.Proofs.Ytgbajkdomcmblaa
