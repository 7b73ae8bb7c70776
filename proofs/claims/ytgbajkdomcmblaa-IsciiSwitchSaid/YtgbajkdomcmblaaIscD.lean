/- ISCII's decoders and encoders as plain data, and in memory. -/
import Derived.Test.YtgbajkdomcmblaaIndC
import Derived.Test.YtgbajkdomcmblaaMachW
namespace Go.Proofs.Ytgbajkdomcmblaa
open Go Go.RowKit Vc
set_option linter.unusedVariables false
set_option linter.unusedSimpArgs false
/-- What a unit means by the script there is, and the script behind it. -/
def meanU (sc u : Int) : List Int × Int := if 8192 ≤ u then ([u - 8192], sc) else if 4096 ≤ u then ([], u - 4096) else ([2304 + 128 * sc + u], sc)
def meanUs : Int → List Int → List Int × Int
  | sc, [] => ([], sc)
  | sc, u :: l => ((meanU sc u).1 ++ (meanUs (meanU sc u).2 l).1, (meanUs (meanU sc u).2 l).2)
def meanT : Int → List PTok → List PTok × Int
  | sc, [] => ([], sc)
  | sc, x :: l => (⟨x.at_, x.len, (meanUs sc x.out).1, x.err⟩ :: (meanT (meanUs sc x.out).2 l).1, (meanT (meanUs sc x.out).2 l).2)
theorem meanUs_append : ∀ (l m : List Int) (sc : Int), meanUs sc (l ++ m) = ((meanUs sc l).1 ++ (meanUs (meanUs sc l).2 m).1, (meanUs (meanUs sc l).2 m).2)
  | [], m, sc => by simp [meanUs]
  | u :: l, m, sc => by simp only [List.cons_append, meanUs, meanUs_append l m, List.append_assoc]
theorem meanT_append : ∀ (l m : List PTok) (sc : Int), meanT sc (l ++ m) = ((meanT sc l).1 ++ (meanT (meanT sc l).2 m).1, (meanT (meanT sc l).2 m).2)
  | [], m, sc => by simp [meanT]
  | u :: l, m, sc => by simp only [List.cons_append, meanT, meanT_append l m]
theorem meanT_len : ∀ (l : List PTok) (sc : Int), (meanT sc l).1.length = l.length
  | [], _ => rfl
  | x :: l, sc => by simp [meanT, meanT_len l]
theorem meanUs_take_succ {us : List Int} {k : Nat} (hk : k < us.length) {sc sc2 : Int} {o : List Int} (h : meanUs sc (us.take k) = (o, sc2)) : meanUs sc (us.take (k + 1)) = (o ++ (meanU sc2 us[k]).1, (meanU sc2 us[k]).2) := by
  rw [List.take_succ_eq_append_getElem hk, meanUs_append, h]
  simp [meanUs]
def meanTok (sc : Int) (x : PTok) : PTok := ⟨x.at_, x.len, (meanUs sc x.out).1, x.err⟩
theorem meanT_take_succ {ts : List PTok} {k : Nat} (hk : k < ts.length) {sc sc2 : Int} {o : List PTok} (h : meanT sc (ts.take k) = (o, sc2)) : meanT sc (ts.take (k + 1)) = (o ++ [meanTok sc2 ts[k]], (meanUs sc2 ts[k].out).2) := by
  rw [List.take_succ_eq_append_getElem hk, meanT_append, h]
  simp [meanT, meanTok]
/-- Units that scripts and places have. -/
def uOk (u : Int) : Prop := 0 ≤ u ∧ u ≤ 1114111
theorem meanU_sc {sc u : Int} (h0 : 0 ≤ sc) (h1 : sc ≤ 10000) (hu : uOk u) : 0 ≤ (meanU sc u).2 ∧ (meanU sc u).2 ≤ 10000 := by
  unfold meanU uOk at *
  split
  · exact ⟨h0, h1⟩
  · split
    · simp only []; omega
    · exact ⟨h0, h1⟩
theorem meanU_len (sc u : Int) : (meanU sc u).1.length ≤ 1 := by unfold meanU; split <;> (try split) <;> simp
theorem meanUs_sc : ∀ (us : List Int) {sc : Int}, 0 ≤ sc → sc ≤ 10000 → (∀ u ∈ us, uOk u) → 0 ≤ (meanUs sc us).2 ∧ (meanUs sc us).2 ≤ 10000
  | [], sc, h0, h1, _ => ⟨h0, h1⟩
  | u :: l, sc, h0, h1, h => by
    have h2 := meanU_sc h0 h1 (h u (by simp))
    exact meanUs_sc l h2.1 h2.2 fun v hv => h v (by simp [hv])
theorem meanUs_len : ∀ (us : List Int) (sc : Int), (meanUs sc us).1.length ≤ us.length
  | [], _ => by simp [meanUs]
  | u :: l, sc => by
    have h1 := meanU_len sc u
    have h2 := meanUs_len l (meanU sc u).2
    simp only [meanUs, List.length_append, List.length_cons]; omega
theorem meanT_sc : ∀ (ts : List PTok) {sc : Int}, 0 ≤ sc → sc ≤ 10000 → (∀ x ∈ ts, ∀ u ∈ x.out, uOk u) → 0 ≤ (meanT sc ts).2 ∧ (meanT sc ts).2 ≤ 10000
  | [], sc, h0, h1, _ => ⟨h0, h1⟩
  | x :: l, sc, h0, h1, h => by
    have h2 := meanUs_sc x.out h0 h1 (h x (by simp))
    exact meanT_sc l h2.1 h2.2 fun y hy => h y (by simp [hy])
theorem take_uok {rs : List PRule} (hg : GoodR rs) (e : Bool) : ∀ (m : Nat) (us : List Int) (a : Int), us.length ≤ m → ∀ x ∈ (takeP rs e us a).1, ∀ u ∈ x.out, uOk u := by
  have htok : ∀ us a, ∀ u ∈ (tokP rs us a).out, uOk u := fun us a => by
    unfold tokP
    split
    · simp
    · simp only [outP]
      split
      · rename_i r hr
        exact (hg.mem (List.mem_of_getElem? hr)).2.2.2
      · simp
  intro m
  induction m with
  | zero =>
    intro us a h
    have : us = [] := List.eq_nil_of_length_eq_zero (by omega)
    subst this
    simp [take_nil]
  | succ m ih =>
    intro us a h x hx
    by_cases hu : us = []
    · subst hu; simp [take_nil] at hx
    · cases ho : openP rs us && !e with
      | true => rw [take_open hu ho] at hx; simp at hx
      | false =>
        rw [take_cons hu ho] at hx
        have h1 := tok_len hg.right hu a
        rcases List.mem_cons.1 hx with rfl | hx
        · exact htok us a
        · exact ih _ _ (by simp only [List.length_drop]; omega) x hx
/-! In memory. -/
/-- A decoder of ISCII: what waits, where it begins, the script. -/
structure IDec where
  m : List Int × Int
  sc : Int
def IDecR (g : Nat) (w : World) (M S : MS) (s : IDec) : Prop := ∃ (gd : Nat) (S1 : MS), Ms S M ∧ Bk w g 128 [.iface 109 (.pointer (some ⟨gd, 0, none⟩)), .int .i64 s.sc] ∧ S g ∧ DecO gd indR w M S1 s.m ∧ Ms S1 S ∧ Dj S1 (vb g)
theorem IDecR.ms {g : Nat} {w : World} {M S : MS} {s : IDec} (h : IDecR g w M S s) : Ms S M := by obtain ⟨_, _, h, _⟩ := h; exact h
theorem IDecR.step {g : Nat} {w w' : World} {M M' S X : MS} {s : IDec} (h : IDecR g w M S s) (hs : Stp w w' X) (hd : Dj S X) (u : Up w M w' M') (hm : Ms S M') : IDecR g w' M' S s := by
  obtain ⟨gd, S1, h1, h2, h3, h4, h5, h6⟩ := h
  exact ⟨gd, S1, hm, h2.stp hs (hd g h3), h3, h4.step hs (fun k hk => hd k (h5 k hk)) u (fun k hk => hm k (h5 k hk)), h5, h6⟩
def decStep (s : IDec) (r : List PTok × (List Int × Int)) : List PTok × IDec := ((meanT s.sc r.1).1, ⟨r.2, (meanT s.sc r.1).2⟩)
def idecPut (s : IDec) (u : Int) : List PTok × IDec := decStep s (matchPut indR s.m u)
def idecFin (s : IDec) : List PTok × IDec := decStep s (matchFin indR s.m)
def idecOk (s : IDec) (n : Nat) : Prop := matchOk s.m n ∧ 0 ≤ s.sc ∧ s.sc ≤ 10000
/-- An encoder of ISCII: the machine's state, the script, how many came. -/
structure IEnc where
  e : EncS
  sc : Int
  n : Int
def IEncR (g : Nat) (w : World) (M S : MS) (s : IEnc) : Prop := ∃ (ge : Nat) (b : Int) (S1 : MS), Ms S M ∧ Bk w g 122 [.pointer (some ⟨ge, 0, none⟩), .int .i64 s.sc, .int .i64 s.n, .int .i64 b] ∧ S g ∧ EncO ge indR w M S1 s.e ∧ Ms S1 S ∧ Dj S1 (vb g)
theorem IEncR.ms {g : Nat} {w : World} {M S : MS} {s : IEnc} (h : IEncR g w M S s) : Ms S M := by obtain ⟨_, _, _, h, _⟩ := h; exact h
theorem IEncR.step {g : Nat} {w w' : World} {M M' S X : MS} {s : IEnc} (h : IEncR g w M S s) (hs : Stp w w' X) (hd : Dj S X) (u : Up w M w' M') (hm : Ms S M') : IEncR g w' M' S s := by
  obtain ⟨ge, b, S1, h1, h2, h3, h4, h5, h6⟩ := h
  exact ⟨ge, b, S1, hm, h2.stp hs (hd g h3), h3, EncR.step h4 hs (fun k hk => hd k (h5 k hk)) u (fun k hk => hm k (h5 k hk)), h5, h6⟩
/-- The unit that stands for a scalar. -/
def unitOf (x : Int) : Int := if scalarB x then (if indIs x then indPlace x else 8192 + x) else -1
def switchTok (n sc : Int) : PTok := ⟨n, 0, [239, codesL.getD sc.toNat 0], 0⟩
def ienPlain (s : IEnc) (u : Int) : List PTok × IEnc := ((encPut indR s.e u).1, ⟨(encPut indR s.e u).2, s.sc, s.n + 1⟩)
def apartS (e : EncS) : EncS := ⟨e.wait, e.a, []⟩
def ienSwitch (s : IEnc) (x : Int) : List PTok × IEnc :=
  ((encFin indR s.e).1 ++ [switchTok s.n (indScript x)] ++ (encPut indR (apartS (encFin indR s.e).2) (unitOf x)).1, ⟨(encPut indR (apartS (encFin indR s.e).2) (unitOf x)).2, indScript x, s.n + 1⟩)
def iencPut (s : IEnc) (x : Int) : List PTok × IEnc := if (indIs x && decide (indScript x ≠ s.sc)) = true then ienSwitch s x else ienPlain s (unitOf x)
def iencFin (s : IEnc) : List PTok × IEnc := ((encFin indR s.e).1, ⟨(encFin indR s.e).2, s.sc, s.n⟩)
def iencOk (s : IEnc) (n : Nat) : Prop := encOk s.e n ∧ 0 ≤ s.n ∧ s.n + n ≤ 100000000
theorem script_range {x : Int} (h : indIs x = true) : 0 ≤ indScript x ∧ indScript x < 9 ∧ 0 ≤ indPlace x ∧ indPlace x < 128 := by
  unfold indIs at h
  rw [Bool.not_eq_true', Bool.or_eq_false_iff, Bool.or_eq_false_iff, decide_eq_false_iff_not, decide_eq_false_iff_not] at h
  unfold indScript indPlace
  omega
end Go.Proofs.Ytgbajkdomcmblaa
