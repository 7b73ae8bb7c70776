/- The rules of ISCII as plain data; scripts, places. -/
import Derived.Test.YtgbajkdomcmblaaMachU
import Derived.Test.YtgbajkdomcmblaaVs
namespace Go.Proofs.Ytgbajkdomcmblaa
open Go Go.RowKit Vc
set_option linter.unusedVariables false
set_option linter.unusedSimpArgs false
/-- The places of the bytes from a1 to ea. -/
def placesL : List Int := [1, 2, 3, 5, 6, 7, 8, 9, 10, 11, 14, 15, 16, 13, 18, 19, 20, 17, 21, 22, 23, 24, 25, 26, 27, 28, 29, 30, 31, 32, 33, 34, 35, 36, 37, 38, 39, 40, 41, 42, 43, 44, 45, 46, 47, 95, 48, 49, 50, 51, 52, 53, 54, 55, 56, 57, -1, 62, 63, 64, 65, 66, 67, 70, 71, 72, 69, 74, 75, 76, 73, 77, 60, -1]
def nuktaL : List (Int × Int) := [(161, 80), (166, 12), (167, 97), (170, 96), (179, 88), (180, 89), (181, 90), (186, 91), (191, 92), (192, 93), (201, 94), (219, 98), (220, 99), (223, 68)]
def codesL : List Int := [66, 67, 75, 74, 71, 68, 69, 72, 73]
def placeO (c : Int) : Option Int :=
  if 161 ≤ c ∧ c ≤ 234 then (if 0 ≤ placesL.getD (c - 161).toNat 0 then some (placesL.getD (c - 161).toNat 0) else none)
  else if 241 ≤ c ∧ c ≤ 250 then some (102 + c - 241) else none
def placeV : Option Int → Value
  | some n => .tuple #[.int .i64 n, .bool true]
  | none => .tuple #[.int .i64 0, .bool false]
def indA (k : Nat) : List PRule := (List.range k).map fun (c : Nat) => ⟨[(c : Int)], [8192 + (c : Int)]⟩
def indB (k : Nat) : List PRule := (List.range k).filterMap fun (i : Nat) => (placeO (161 + (i : Int))).map fun n => ⟨[161 + (i : Int)], [n]⟩
def indC (k : Nat) : List PRule := (nuktaL.take k).map fun p => ⟨[p.1, 233], [p.2]⟩
def indE (k : Nat) : List PRule := (List.range k).map fun (s : Nat) => ⟨[239, codesL.getD s 0], [4096 + (s : Int)]⟩
def indF : List PRule := [⟨[217], [16397]⟩, ⟨[234], [10596]⟩, ⟨[234, 233], [61]⟩, ⟨[232, 232], [77, 16396]⟩, ⟨[232, 233], [77, 16397]⟩, ⟨[240, 184], [82]⟩, ⟨[240, 191], [112]⟩]
def indR : List PRule := (((indA 128 ++ indB 90) ++ indC 14) ++ indE 9) ++ indF
theorem indA_succ (k : Nat) : indA (k + 1) = indA k ++ [⟨[(k : Int)], [8192 + (k : Int)]⟩] := by simp [indA, List.range_succ]
theorem indB_succ (k : Nat) : indB (k + 1) = indB k ++ (match placeO (161 + (k : Int)) with
    | some n => [⟨[161 + (k : Int)], [n]⟩]
    | none => []) := by
  unfold indB
  rw [List.range_succ, List.filterMap_append]
  cases h : placeO (161 + (k : Int)) <;> simp [h]
theorem indC_succ {k : Nat} (hk : k < nuktaL.length) : indC (k + 1) = indC k ++ [⟨[nuktaL[k].1, 233], [nuktaL[k].2]⟩] := by
  unfold indC; rw [map_take_succ _ hk]
theorem indE_succ (k : Nat) : indE (k + 1) = indE k ++ [⟨[239, codesL.getD k 0], [4096 + (k : Int)]⟩] := by simp [indE, List.range_succ]
theorem indB_none {k n : Nat} (h : ∀ i, k ≤ i → i < n → placeO (161 + (i : Int)) = none) (hkn : k ≤ n) : indB n = indB k := by
  induction n with
  | zero => rw [show k = 0 by omega]
  | succ n ih =>
    by_cases he : k = n + 1
    · rw [he]
    · rw [indB_succ, h n (by omega) (by omega), List.append_nil]
      exact ih (fun i h1 h2 => h i h1 (by omega)) (by omega)
/-- All that makes rules right, as one Bool. -/
def goodB (rs : List PRule) : Bool := decide (rs.length ≤ 512) && (List.range rs.length).all fun k => match rs[k]? with
  | some r => mayP r.inn && mayP r.out && decide (findP (rs.take k) r.inn < 0)
  | none => true
theorem good_of_B {rs : List PRule} (h : goodB rs = true) : GoodR rs := by
  simp only [goodB, Bool.and_eq_true, decide_eq_true_eq] at h
  refine ⟨h.1, fun k hk => ?_⟩
  have := List.all_eq_true.1 h.2 k (List.mem_range.2 hk)
  simp only [List.getElem?_eq_getElem hk, Bool.and_eq_true, decide_eq_true_eq] at this
  exact ⟨this.1.1, this.1.2, this.2⟩
theorem indR_good : GoodR indR := good_of_B (by kernel_rfl)
theorem indR_closed : closedP indR = true := by kernel_rfl
theorem indR_len : indR.length = 240 := by kernel_rfl
/-! Scripts. -/
def scalarB (s : Int) : Bool := decide (0 ≤ s) && (decide (s ≤ 1114111) && (decide (s < 55296) || decide (57343 < s)))
def indIs (s : Int) : Bool := !(decide (s < 2304) || (decide (3456 ≤ s) || decide (s = 2404)))
def indScript (s : Int) : Int := (s - 2304) / 128
def indPlace (s : Int) : Int := (s - 2304) % 128
def ofV (s : Int) : Value := if indIs s then .tuple #[.int .i64 (indScript s), .int .i64 (indPlace s), .bool true] else .tuple #[.int .i64 0, .int .i64 0, .bool false]
def PairR : ER (Int × Int) := fun _ _ cs x => cs = [.int .i64 x.1, .int .i64 x.2] ∧ I64 x.1 ∧ I64 x.2
instance : Stable PairR := ⟨fun h _ => h, fun h u hu => by rw [h.1] at hu; simp at hu; rcases hu with rfl | rfl <;> rfl⟩
end Go.Proofs.Ytgbajkdomcmblaa
