/- Encoders in memory. -/
import Derived.Test.YtgbajkdomcmblaaMachJ
namespace Go.Proofs.Ytgbajkdomcmblaa
open Go Go.RowKit Vc
set_option linter.unusedVariables false
set_option linter.unusedSimpArgs false
theorem set_mid {α : Type} {pre ts : List α} {k : Nat} (hp : pre.length = k) (hk : k < ts.length) (y : α) : (pre ++ ts.drop k).set k y = (pre ++ [y]) ++ ts.drop (k + 1) := by
  subst hp
  rw [List.set_append_right _ _ (Nat.le_refl _), Nat.sub_self, List.drop_eq_getElem_cons hk]
  simp only [List.set_cons_zero, List.append_assoc, List.cons_append, List.nil_append]
theorem get_mid {α : Type} {pre ts : List α} {k : Nat} (hp : pre.length = k) (hk : k < ts.length) (h : k < (pre ++ ts.drop k).length) : (pre ++ ts.drop k)[k] = ts[k] := by
  subst hp
  rw [List.getElem_append_right (Nat.le_refl _)]
  simp
theorem get_set {α : Type} {l : List α} {k : Nat} {y : α} (h : k < (l.set k y).length) : (l.set k y)[k] = y := by simp
/-- An encoder lies at g: its blocks are S. -/
def EncR (w : World) (M S : MS) (g : Nat) (rs : List PRule) (wait : List Int) (a : Int) (ahead : List Int) : Prop :=
  ∃ (gm tb : Nat) (A : Option Addr) (c : Nat) (S1 : MS), Ms S M ∧ Bk w g 116 [.pointer (some ⟨gm, 0, none⟩), .pointer (some ⟨tb, 0, none⟩), .slice A ahead.length c] ∧ S g ∧
    MatchR w M S1 gm (turnP rs) wait a ∧ Ms S1 S ∧ Dj S1 (vb g) ∧ SlD IntR 1 w M A c ahead ∧ TableR w M tb rs
theorem EncR.ms {w : World} {M S : MS} {g : Nat} {rs : List PRule} {wait : List Int} {a : Int} {ahead : List Int} (h : EncR w M S g rs wait a ahead) : Ms S M := by
  obtain ⟨_, _, _, _, _, h, _⟩ := h; exact h
theorem EncR.step {w w' : World} {M M' S X : MS} {g : Nat} {rs : List PRule} {wait : List Int} {a : Int} {ahead : List Int} (h : EncR w M S g rs wait a ahead) (hs : Stp w w' X) (hd : Dj S X) (u : Up w M w' M') (hm : Ms S M') : EncR w' M' S g rs wait a ahead := by
  obtain ⟨gm, tb, A, c, S1, h1, h2, h3, h4, h5, h6, h7, h8⟩ := h
  exact ⟨gm, tb, A, c, S1, hm, h2.stp hs (hd g h3), h3, h4.step hs (fun k hk => hd k (h5 k hk)) u (fun k hk => hm k (h5 k hk)), h5, h6, h7.up u, h8.up u⟩
theorem EncR.take_outs {rs : List PRule} (hg : GoodR rs) (e : Bool) : ∀ (m : Nat) (us : List Int) (a : Int), us.length ≤ m → ∀ x ∈ (takeP rs e us a).1, x.out.length ≤ 8 := by
  have htok : ∀ us a, (tokP rs us a).out.length ≤ 8 := fun us a => by
    unfold tokP
    split
    · simp
    · simp only [outP]
      split
      · rename_i r hr
        exact (hg.mem (List.mem_of_getElem? hr)).2.2.1
      · simp
  intro m
  induction m with
  | zero =>
    intro us a h
    have : us = [] := List.eq_nil_of_length_eq_zero (by omega)
    subst this
    simp [take_nil]
  | succ m ih =>
    intro us a h x hx
    by_cases hu : us = []
    · subst hu; simp [take_nil] at hx
    · cases ho : openP rs us && !e with
      | true => rw [take_open hu ho] at hx; simp at hx
      | false =>
        rw [take_cons hu ho] at hx
        have h1 := tok_len hg.right hu a
        rcases List.mem_cons.1 hx with rfl | hx
        · exact htok us a
        · exact ih _ _ (by simp only [List.length_drop]; omega) x hx
theorem join_ahead_len (rs : List PRule) (n : Nat) : ∀ (l : List PTok) (ahead : List Int), ahead.length ≤ n → (∀ x ∈ l, x.out.length ≤ n) → (joinP rs ahead l).2.length ≤ n
  | [], ahead, h, _ => h
  | x :: l, ahead, h, hl => by
    refine join_ahead_len rs n l _ ?_ fun y hy => hl y (by simp [hy])
    unfold joinAhead
    split
    · exact hl x (by simp)
    · exact h
/-! Machines of any kind. -/
/-- How a machine behind the interface behaves: its states; how many units may come still. -/
structure Mach (σ : Type) (t : TypeId) (v : Value) (Obj : World → MS → MS → σ → Prop) (pt : σ → Int → List PTok × σ) (en : σ → List PTok × σ) (ok : σ → Nat → Prop) : Prop where
  ms : ∀ {w : World} {M S : MS} {s : σ}, Obj w M S s → Ms S M
  step : ∀ {w w' : World} {M M' S X : MS} {s : σ}, Obj w M S s → Stp w w' X → Dj S X → Up w M w' M' → Ms S M' → Obj w' M' S s
  put : ∀ {w : World} {M S : MS} {s : σ} {n : Nat} {u : Int}, Obj w M S s → MB w M → ok s (n + 1) → I64 u → ∃ f r fn, MethAt Try.prog w t v "Put" f r ∧ Try.prog.funcs[f]? = some fn ∧ (fn.name == "runtime.NumGoroutine") = false ∧ fn.body.isNone = false ∧
    Fc Try.prog f #[r, .int .i64 u] w fun v w' => ∃ M' S', PutR w M S w' M' S' v (pt s u).1 ∧ Obj w' M' S' (pt s u).2
  fin : ∀ {w : World} {M S : MS} {s : σ} {n : Nat}, Obj w M S s → MB w M → ok s n → ∃ f r fn, MethAt Try.prog w t v "End" f r ∧ Try.prog.funcs[f]? = some fn ∧ (fn.name == "runtime.NumGoroutine") = false ∧ fn.body.isNone = false ∧
    Fc Try.prog f #[r] w fun v w' => ∃ M' S', PutR w M S w' M' S' v (en s).1 ∧ Obj w' M' S' (en s).2
  oks : ∀ {s : σ} {n : Nat} {u : Int}, ok s (n + 1) → ok (pt s u).2 n ∧ (pt s u).1.length ≤ 1000000000
  okf : ∀ {s : σ} {n : Nat}, ok s n → (en s).1.length ≤ 1000000000
def runP {σ : Type} (put : σ → Int → List PTok × σ) : List Int → σ → List PTok × σ
  | [], s => ([], s)
  | u :: us, s => ((put s u).1 ++ (runP put us (put s u).2).1, (runP put us (put s u).2).2)
def allP {σ : Type} (put : σ → Int → List PTok × σ) (fin : σ → List PTok × σ) (us : List Int) (s : σ) : List PTok × σ := ((runP put us s).1 ++ (fin (runP put us s).2).1, (fin (runP put us s).2).2)
theorem run_append {σ : Type} (put : σ → Int → List PTok × σ) : ∀ (l m : List Int) (s : σ), runP put (l ++ m) s = ((runP put l s).1 ++ (runP put m (runP put l s).2).1, (runP put m (runP put l s).2).2)
  | [], m, s => by simp [runP]
  | x :: l, m, s => by simp only [List.cons_append, runP, run_append put l m, List.append_assoc]
theorem run_take_succ {σ : Type} (put : σ → Int → List PTok × σ) {us : List Int} {k : Nat} (hk : k < us.length) {s s2 : σ} {out : List PTok} (h : runP put (us.take k) s = (out, s2)) : runP put (us.take (k + 1)) s = (out ++ (put s2 us[k]).1, (put s2 us[k]).2) := by
  rw [List.take_succ_eq_append_getElem hk, run_append, h]
  simp [runP]
/-- A decoder: what waits, where it begins. -/
def matchPut (rs : List PRule) (s : List Int × Int) (u : Int) : List PTok × (List Int × Int) := takeP rs false (s.1 ++ [u]) s.2
def matchFin (rs : List PRule) (s : List Int × Int) : List PTok × (List Int × Int) := takeP rs true s.1 s.2
def matchOk (s : List Int × Int) (n : Nat) : Prop := 0 ≤ s.2 ∧ s.2 + s.1.length + n ≤ 100000000
/-- An encoder: what waits, where it begins, what stands ahead. -/
structure EncS where
  wait : List Int
  a : Int
  ahead : List Int
def encTake (rs : List PRule) (s : EncS) (r : List PTok × (List Int × Int)) : List PTok × EncS := ((joinP rs s.ahead r.1).1, ⟨r.2.1, r.2.2, (joinP rs s.ahead r.1).2⟩)
def encPut (rs : List PRule) (s : EncS) (u : Int) : List PTok × EncS := encTake rs s (takeP (turnP rs) false (s.wait ++ [u]) s.a)
def encFin (rs : List PRule) (s : EncS) : List PTok × EncS := encTake rs s (takeP (turnP rs) true s.wait s.a)
def encOk (s : EncS) (n : Nat) : Prop := 0 ≤ s.a ∧ s.a + s.wait.length + n ≤ 100000000 ∧ s.ahead.length ≤ 8
def EncO (g : Nat) (rs : List PRule) (w : World) (M S : MS) (s : EncS) : Prop := EncR w M S g rs s.wait s.a s.ahead
/-- A decoder lies at g: it holds a match. -/
def DecO (g : Nat) (rs : List PRule) (w : World) (M S : MS) (s : List Int × Int) : Prop := ∃ gm S1, Ms S M ∧ Bk w g 114 [.pointer (some ⟨gm, 0, none⟩)] ∧ S g ∧ MatchR w M S1 gm rs s.1 s.2 ∧ Ms S1 S ∧ Dj S1 (vb g)
theorem DecO.ms {g : Nat} {rs : List PRule} {w : World} {M S : MS} {s : List Int × Int} (h : DecO g rs w M S s) : Ms S M := by obtain ⟨_, _, h, _⟩ := h; exact h
theorem DecO.step {g : Nat} {rs : List PRule} {w w' : World} {M M' S X : MS} {s : List Int × Int} (h : DecO g rs w M S s) (hs : Stp w w' X) (hd : Dj S X) (u : Up w M w' M') (hm : Ms S M') : DecO g rs w' M' S s := by
  obtain ⟨gm, S1, h1, h2, h3, h4, h5, h6⟩ := h
  exact ⟨gm, S1, hm, h2.stp hs (hd g h3), h3, h4.step hs (fun k hk => hd k (h5 k hk)) u (fun k hk => hm k (h5 k hk)), h5, h6⟩
theorem matchOk.put {rs : List PRule} (hr : RightR rs) {s : List Int × Int} {n : Nat} {u : Int} (h : matchOk s (n + 1)) : matchOk (matchPut rs s u).2 n ∧ (matchPut rs s u).1.length ≤ 1000000000 := by
  obtain ⟨h1, h2⟩ := h
  obtain ⟨i1, _, i3, i4, i5⟩ := take_wait hr false _ (s.1 ++ [u]) s.2 (Nat.le_refl _)
  have h3 := i3.length_le
  simp only [List.length_append, List.length_cons, List.length_nil] at i1 i5 h3
  refine ⟨⟨?_, ?_⟩, ?_⟩ <;> simp only [matchPut] <;> omega
theorem matchOk.fin {rs : List PRule} (hr : RightR rs) {s : List Int × Int} {n : Nat} (h : matchOk s n) : (matchFin rs s).1.length ≤ 1000000000 := by
  obtain ⟨h1, h2⟩ := h
  obtain ⟨i1, _, i3, i4, i5⟩ := take_wait hr true _ s.1 s.2 (Nat.le_refl _)
  simp only [matchFin]; omega
theorem encOk.put {rs : List PRule} (hg : GoodR rs) {s : EncS} {n : Nat} {u : Int} (h : encOk s (n + 1)) : encOk (encPut rs s u).2 n ∧ (encPut rs s u).1.length ≤ 1000000000 := by
  obtain ⟨h1, h2, h3⟩ := h
  obtain ⟨i1, _, i3, i4, i5⟩ := take_wait hg.turn.right false _ (s.wait ++ [u]) s.a (Nat.le_refl _)
  have h4 := i3.length_le
  have h5 := join_ahead_len rs 8 (takeP (turnP rs) false (s.wait ++ [u]) s.a).1 s.ahead h3 (EncR.take_outs hg.turn false _ _ _ (Nat.le_refl _))
  simp only [List.length_append, List.length_cons, List.length_nil] at i1 i5 h4
  refine ⟨⟨?_, ?_, ?_⟩, ?_⟩ <;> simp only [encPut, encTake, join_len] <;> omega
theorem encOk.fin {rs : List PRule} (hg : GoodR rs) {s : EncS} {n : Nat} (h : encOk s n) : (encFin rs s).1.length ≤ 1000000000 := by
  obtain ⟨h1, h2, h3⟩ := h
  obtain ⟨i1, _, i3, i4, i5⟩ := take_wait hg.turn.right true _ s.wait s.a (Nat.le_refl _)
  simp only [encFin, encTake, join_len]; omega
end Go.Proofs.Ytgbajkdomcmblaa
