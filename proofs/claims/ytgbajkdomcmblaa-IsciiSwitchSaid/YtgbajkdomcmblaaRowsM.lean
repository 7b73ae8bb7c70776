/- The rows of a law's rules among its arguments. -/
import Derived.Test.YtgbajkdomcmblaaRows
import Derived.Test.YtgbajkdomcmblaaRowsKit
import Derived.Test.YtgbajkdomcmblaaMachD
import Derived.Lib.SmallJoins
namespace Go.Proofs.Ytgbajkdomcmblaa
open Go Go.ChangeShapes Go.WideShapes Go.ChangeAt Go.RowKit Vc
set_option linter.unusedVariables false
section
variable {H : Type} {enc : TypeId × Value → H} {w : World} {spare : Nat → Bool}
theorem open_many {P : Program} {t e : TypeId} {α : Type} [Inhabited α] {R : ER α} {sz fuel : Nat} {cs : List Value} {x : DataW H × List MemPlace} (hc : P.cellsOf e = sz) (hsz : 0 < sz) (ht : P.underlying t = some (.slice e))
    (hel : ∀ (n : Nat) (cs : List Value) (x : DataW H × List MemPlace), DataW.trod enc P w 0 spare true n e cs = some x → ∃ a, R w (fun _ => False) cs a)
    (h : DataW.trod enc P w 0 spare true fuel t cs = some x) : ∃ v xs, cs = [v] ∧ Sl R sz w (fun _ => False) v xs := by
  rcases Deep.open_slice ht h with ⟨rfl, _⟩ | ⟨a, len, cap, m, n, D, Pl, rfl, _, hlc, hcm, hm, _, hx⟩
  · exact ⟨_, [], rfl, Sl.nil⟩
  · have hlm : len ≤ m := by rw [hm]; split <;> omega
    rw [hc] at hx
    have hf : ∀ i : Nat, i < len → ∃ y : α, ∃ cs', cs'.length = sz ∧ At w (fun _ => False) (a.add (i * sz)) cs' ∧ R w (fun _ => False) cs' y := fun i hi => by
      obtain ⟨cs', h1, h2⟩ := hx i (by omega)
      obtain ⟨_, hlen, hcell⟩ := World.cells?_some h1
      obtain ⟨y, hy⟩ := hel _ _ _ h2
      refine ⟨y, cs', hlen, ⟨fun _ => ⟨?_, id⟩, fun j u hu => (hcell j (by have := (List.getElem?_eq_some_iff.1 hu).1; omega)).trans hu⟩, hy⟩
      obtain ⟨c0, hc0⟩ : ∃ c, cs'[0]? = some c := ⟨cs'[0]'(by omega), List.getElem?_eq_getElem (by omega)⟩
      have := cell_lt ((hcell 0 hsz).trans hc0)
      simpa using this
    obtain ⟨f, hff⟩ := Deep.choose_lt hf
    have hll : ((List.range len).map f).length = len := by simp
    refine ⟨_, (List.range len).map f, rfl, some a, cap, by rw [hll], ⟨by rw [hll]; exact hlc, by rw [hll]; exact Nat.le_trans hlc hcm, fun h => by simp at h, fun j y hy => ?_⟩⟩
    obtain ⟨hj, hy⟩ := List.getElem?_eq_some_iff.1 hy
    rw [hll] at hj
    simp only [List.getElem_map, List.getElem_range] at hy
    obtain ⟨cs', h1, h2, h3⟩ := hff j hj
    exact ⟨a, cs', rfl, h1, h2, hy ▸ h3⟩
theorem list5 {α : Type} {l : List α} (h : l.length = 5) : ∃ a b c d e, l = [a, b, c, d, e] := by
  match l, h with
  | [a, b, c, d, e], _ => exact ⟨a, b, c, d, e, rfl⟩
theorem row_cells {n : Nat} {cs : List Value} {x : DataW H × List MemPlace} (h : DataW.trod enc Try.prog w 0 spare true n 157 cs = some x) : ∃ a, RowR w (fun _ => False) cs a := by
  obtain ⟨y0, y1, y2, y3, n1, _, hl, h0, h1, h2, h3⟩ := Go.Joins.trod_struct4 Try.underlying157 h
  rw [show Try.prog.cellsOf 157 = 5 by kernel_rfl] at hl
  obtain ⟨a, b, c, d, e, rfl⟩ := list5 hl
  rw [show Try.prog.cellsOf 44 = 1 by kernel_rfl] at h0 h1
  rw [show Try.prog.cellsOf 4 = 1 by kernel_rfl] at h2
  rw [show Try.prog.cellsOf 100 = 2 by kernel_rfl] at h3
  obtain ⟨v0, x0, e0, k0⟩ := trod_ints (R := ByteR) (fun n hn => byteR hn) Try.underlying44 Try.underlying5 (by kernel_rfl) h0
  obtain ⟨v1, x1, e1, k1⟩ := trod_ints (R := ByteR) (fun n hn => byteR hn) Try.underlying44 Try.underlying5 (by kernel_rfl) h1
  obtain ⟨bb, e2, _⟩ := DataW.trod_bool Try.underlying4 h2
  obtain ⟨z0, z1, n2, _, hl2, g0, g1⟩ := trod_struct2 Try.underlying100 h3
  rw [show Try.prog.cellsOf 29 = 1 by kernel_rfl] at g0 g1
  obtain ⟨v3, x3, e3, k3⟩ := trod_ints (R := IntR) (fun n hn => ⟨rfl, i64wf hn⟩) Try.underlying29 Try.underlying3 (by kernel_rfl) g0
  obtain ⟨v4, x4, e4, k4⟩ := trod_ints (R := IntR) (fun n hn => ⟨rfl, i64wf hn⟩) Try.underlying29 Try.underlying3 (by kernel_rfl) g1
  simp only [List.drop_zero, List.drop_succ_cons, List.take_succ_cons, List.take_zero, List.cons.injEq, and_true] at e0 e1 e2 e3 e4
  subst e0 e1 e2 e3 e4
  exact ⟨⟨x0, x1, bb, ⟨x3, x4⟩⟩, _, _, _, _, rfl, k0, k1, k3, k4⟩
instance : Inhabited PRow := ⟨⟨[], [], false, ⟨[], []⟩⟩⟩
theorem open_rows {v : Value} {d : DataW H} {ps : List MemPlace} (h : DataW.Trod enc Try.prog w 0 spare true 43 v d ps) (hv : v.cells = #[v]) : ∃ xs, Sl RowR 5 w (fun _ => False) v xs := by
  obtain ⟨fuel, hf⟩ := h
  rw [hv] at hf
  obtain ⟨v', xs, h1, h2⟩ := open_many (R := RowR) (sz := 5) (by kernel_rfl) (by decide) Try.underlying43 (fun n cs x hx => row_cells hx) hf
  simp only [List.cons.injEq, and_true] at h1
  exact ⟨xs, by rw [h1]; exact h2⟩
end
end Go.Proofs.Ytgbajkdomcmblaa
