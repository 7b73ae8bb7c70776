/- Plain laws: which rules the laws make; what joins; what an encoder makes of tokens; tokens, tables and matches in memory. -/
import Derived.Test.YtgbajkdomcmblaaMachG
namespace Go.Proofs.Ytgbajkdomcmblaa
open Go Go.RowKit Vc
set_option linter.unusedVariables false
set_option linter.unusedSimpArgs false
theorem good_nil : GoodR [] := ⟨by simp, fun k hk => by simp at hk⟩
theorem good_snoc {out : List PRule} {r : PRule} (h : GoodR out) (h1 : mayP r.inn = true) (h2 : mayP r.out = true) (h3 : findP out r.inn < 0) (hl : out.length + 1 ≤ 512) : GoodR (out ++ [r]) := by
  refine ⟨by simp; omega, fun k hk => ?_⟩
  by_cases hlt : k < out.length
  · rw [List.getElem_append_left hlt, List.take_append_of_le_length (by omega)]
    exact h.ok k hlt
  · have hk2 : k = out.length := by simp at hk; omega
    subst hk2
    have he : (out ++ [r])[out.length]'hk = r := by simp
    rw [he, List.take_left]
    exact ⟨h1, h2, h3⟩
theorem good_right : ∀ (l out : List PRule), GoodR out → out.length + l.length ≤ 512 → GoodR (l.foldl rightStep out)
  | [], out, h, _ => h
  | r :: l, out, h, hl => by
    simp only [List.length_cons] at hl
    rw [List.foldl_cons]
    refine good_right l _ ?_ (by have := rightStep_len out r; omega)
    unfold rightStep
    split
    · rename_i hc
      simp only [Bool.and_eq_true, decide_eq_true_eq] at hc
      exact good_snoc h hc.1.1 hc.1.2 hc.2 (by omega)
    · exact h
theorem good_turn (rs : List PRule) (hg : GoodR rs) : ∀ (l out : List PRule), (∀ r ∈ l, r ∈ rs) → GoodR out → out.length + l.length ≤ 512 → GoodR (l.foldl turnStep out)
  | [], out, _, h, _ => h
  | r :: l, out, hs, h, hl => by
    simp only [List.length_cons] at hl
    rw [List.foldl_cons]
    refine good_turn rs hg l _ (fun x hx => hs x (by simp [hx])) ?_ (by have := turnStep_len out r; omega)
    obtain ⟨i, hi, hr⟩ := List.mem_iff_getElem.1 (hs r (by simp))
    obtain ⟨h1, h2, _⟩ := hg.ok i hi
    rw [hr] at h1 h2
    unfold turnStep
    split
    · rename_i hc; exact good_snoc h h2 h1 hc (by omega)
    · exact h
theorem GoodR.turn {rs : List PRule} (hg : GoodR rs) : GoodR (turnP rs) := good_turn rs hg rs [] (fun _ h => h) good_nil (by have := hg.len; simp; omega)
theorem good_of_pairs {rs : List PRule} (hl : rs.length ≤ 512) (hm : ∀ r ∈ rs, mayP r.inn = true ∧ mayP r.out = true) (hp : rs.Pairwise fun a b => a.inn ≠ b.inn) : GoodR rs := by
  refine ⟨hl, fun k hk => ⟨(hm _ (List.getElem_mem hk)).1, (hm _ (List.getElem_mem hk)).2, ?_⟩⟩
  rw [findP_neg, List.any_eq_false]
  intro x hx
  obtain ⟨i, hi, rfl⟩ := List.mem_take_iff_getElem.1 hx
  rw [List.pairwise_iff_getElem] at hp
  have := hp i k (by omega) hk (by omega)
  simpa using this
theorem GoodR.pairs {rs : List PRule} (h : GoodR rs) : rs.Pairwise fun a b => a.inn ≠ b.inn := by
  rw [List.pairwise_iff_getElem]
  intro i j hi hj hij he
  have := h.right.one i j hi hj he
  omega
theorem tableFold_sublist : ∀ (l out : List PRule), (l.foldl tableStep out).Sublist (out ++ l)
  | [], out => by simp
  | r :: l, out => by
    rw [List.foldl_cons]
    refine (tableFold_sublist l _).trans ?_
    unfold tableStep
    split
    · simp
    · exact List.Sublist.append_left (List.sublist_cons_self _ _) _
theorem tableFold_closed : ∀ (l out : List PRule), closedP out = true → closedP (l.foldl tableStep out) = true
  | [], _, h => h
  | r :: l, out, h => by
    rw [List.foldl_cons]
    refine tableFold_closed l _ ?_
    unfold tableStep
    split
    · rename_i hc; exact hc
    · exact h
/-- The laws' rules. -/
def rowsP (rows : List PRow) : List PRule := tableP (rightP (rulesP rows))
theorem rows_good (rows : List PRow) : GoodR (rowsP rows) := by
  have h1 : GoodR (rightP (rulesP rows)) := good_right _ [] good_nil (by simp [rulesP]; omega)
  have hs : (rowsP rows).Sublist (rightP (rulesP rows)) := by simpa [rowsP, tableP] using tableFold_sublist (rightP (rulesP rows)) []
  refine good_of_pairs (by have := hs.length_le; have := h1.len; omega) (fun r hr => ?_) (h1.pairs.sublist hs)
  obtain ⟨i, hi, rfl⟩ := List.mem_iff_getElem.1 (hs.subset hr)
  exact ⟨(h1.ok i hi).1, (h1.ok i hi).2.1⟩
theorem rows_closed (rows : List PRow) : closedP (rowsP rows) = true := tableFold_closed _ [] (by simp [closedP])
/-! What is read with what stands ahead. -/
def joinsP (rs : List PRule) (ahead us : List Int) : Bool := decide (0 < ahead.length) && decide ((ahead.length : Int) < (longestP rs (ahead ++ us)).2)
def joinTok (rs : List PRule) (ahead : List Int) (x : PTok) : PTok := if (decide (x.err = 0) && joinsP rs ahead x.out) = true then ⟨x.at_, x.len, [], 3⟩ else x
def joinAhead (rs : List PRule) (ahead : List Int) (x : PTok) : List Int := if (joinTok rs ahead x).err = 0 then x.out else ahead
def joinP (rs : List PRule) : List Int → List PTok → List PTok × List Int
  | ahead, [] => ([], ahead)
  | ahead, x :: l => (joinTok rs ahead x :: (joinP rs (joinAhead rs ahead x) l).1, (joinP rs (joinAhead rs ahead x) l).2)
theorem join_append (rs : List PRule) : ∀ (l m : List PTok) (ahead : List Int), joinP rs ahead (l ++ m) = ((joinP rs ahead l).1 ++ (joinP rs (joinP rs ahead l).2 m).1, (joinP rs (joinP rs ahead l).2 m).2)
  | [], m, ahead => by simp [joinP]
  | x :: l, m, ahead => by simp only [List.cons_append, joinP, join_append rs l m]
theorem join_len (rs : List PRule) : ∀ (l : List PTok) (ahead : List Int), (joinP rs ahead l).1.length = l.length
  | [], _ => rfl
  | x :: l, ahead => by simp [joinP, join_len rs l]
theorem join_take_succ (rs : List PRule) (ahead : List Int) {ts : List PTok} {k : Nat} (hk : k < ts.length) :
    joinP rs ahead (ts.take (k + 1)) = ((joinP rs ahead (ts.take k)).1 ++ [joinTok rs (joinP rs ahead (ts.take k)).2 ts[k]], joinAhead rs (joinP rs ahead (ts.take k)).2 ts[k]) := by
  rw [List.take_succ_eq_append_getElem hk, join_append]
  simp [joinP]
/-! In memory. -/
def TokR : ER PTok := fun w M cs x => ∃ v, cs = [.int .i64 x.at_, .int .i64 x.len, v, .int .i64 x.err] ∧ Sl IntR 1 w M v x.out ∧ I64 x.at_ ∧ I64 x.len ∧ I64 x.err
instance : Stable TokR := ⟨fun ⟨v, h, hs, h2⟩ g => ⟨v, h, hs.up g, h2⟩, fun ⟨v, h, hs, _⟩ u hu => by rw [h] at hu; simp at hu; rcases hu with rfl | rfl | rfl | rfl <;> first | rfl | exact hs.one⟩
def TableR (w : World) (M : MS) (g : Nat) (rs : List PRule) : Prop := ∃ gr gw : Nat, At w M ⟨g, 0, none⟩ [.int .i64 (longP rs), .int .i64 (longP (turnP rs)), .pointer (some ⟨gr, 0, none⟩), .pointer (some ⟨gw, 0, none⟩)] ∧ TrieR w M gr rs ∧ TrieR w M gw (turnP rs)
theorem TableR.up {w w' : World} {M M' : MS} {g : Nat} {rs : List PRule} (h : TableR w M g rs) (u : Up w M w' M') : TableR w' M' g rs := by
  obtain ⟨gr, gw, h1, h2, h3⟩ := h
  exact ⟨gr, gw, h1.up u, h2.up u, h3.up u⟩
/-- What a call that writes S leaves: tokens of its own. -/
structure PutR (w : World) (M S : MS) (w' : World) (M' S' : MS) (v : Value) (ts : List PTok) : Prop where
  own : Own TokR 4 58 w' M' 0 v ts
  new : ∀ k, ob v k → w.heap.size ≤ k
  dj : Dj (ob v) S'
  up : Up w M w' M'
  ms : Ms M M'
  stp : Stp w w' S
  wr : Wr w.heap.size S S'
/-- A match lies at g: its blocks are S. -/
def MatchR (w : World) (M S : MS) (g : Nat) (rs : List PRule) (wait : List Int) (a : Int) : Prop :=
  ∃ (tr : Nat) (A : Option Addr) (c : Nat) (st : Int), Ms S M ∧ Bk w g 143 [.pointer (some ⟨tr, 0, none⟩), .slice A wait.length c, .int .i64 a, .int .i64 st] ∧ S g ∧
    Own IntR 1 3 w M 0 (.slice A wait.length c) wait ∧ Ms (ob (.slice A wait.length c)) S ∧ TrieR w M tr rs
theorem MatchR.ms {w : World} {M S : MS} {g : Nat} {rs : List PRule} {wait : List Int} {a : Int} (h : MatchR w M S g rs wait a) : Ms S M := h.elim fun _ ⟨_, _, _, h, _⟩ => h
theorem MatchR.step {w w' : World} {M M' S X : MS} {g : Nat} {rs : List PRule} {wait : List Int} {a : Int} (h : MatchR w M S g rs wait a) (hs : Stp w w' X) (hd : Dj S X) (u : Up w M w' M') (hm : Ms S M') : MatchR w' M' S g rs wait a := by
  obtain ⟨tr, A, c, st, h1, h2, h3, h4, h5, h6⟩ := h
  exact ⟨tr, A, c, st, hm, h2.stp hs (hd g h3), h3, h4.step hs (fun k hk => hd k (h5 k hk)) u (fun k hk => hm k (h5 k hk)), h5, h6.up u⟩
end Go.Proofs.Ytgbajkdomcmblaa
