/- What a row asks of a law whose walk leaves what is old as it was. -/
import Derived.Test.YtgbajkdomcmblaaVc
import Derived.ProofKit
import Derived.OpenShut
import Derived.Deep.Slices
namespace Go.Proofs.Ytgbajkdomcmblaa
open Go Go.ChangeShapes Go.WideShapes Go.ChangeAt Go.RowKit Vc
/-- The walk's end, as a row takes it. -/
theorem Vc.Fc.row {P : Program} {f : FuncId} {args : Array Value} {w : World} (h : Fc P f args w fun v w' => v = .bool true ∧ Ext w w') : Calls P f args w fun e w' => e = .returned (.bool true) ∧ Below w.heap.size w w' :=
  h.run.mono fun e w' ⟨v, he, hv, hx⟩ => ⟨by rw [he, hv], hx.below⟩
theorem u8nat {a : Int} (h : (Lit.int .u8 a).wf = true) : ∃ n : Nat, a = n ∧ n ≤ 255 := by
  have h1 : IntKind.u8.min = 0 := by decide
  have h2 : IntKind.u8.max = 255 := by decide
  simp only [Lit.wf, Bool.and_eq_true, decide_eq_true_eq] at h
  rw [h1, h2] at h
  exact ⟨a.toNat, by omega, by omega⟩
theorem i64wf {a : Int} (h : (Lit.int .i64 a).wf = true) : I64 a := by
  have h1 : IntKind.i64.min = -9223372036854775808 := by decide
  have h2 : IntKind.i64.max = 9223372036854775807 := by decide
  simp only [Lit.wf, Bool.and_eq_true, decide_eq_true_eq] at h
  rw [h1, h2] at h
  exact h
section
variable {H : Type} {enc : TypeId × Value → H} {P : Program}
theorem post_of_below {f : Func} {s : ChangeSpec} {apart fresh handsOn again : Bool} {W W' : World} {args : Array Value} {v : Value} {ds gs : List (DataW H)} {before pa pv : List MemPlace}
    (hW : DataW.Whole enc P f.params.toList s.vars apart W args.toList ds gs before)
    (hres : ∀ (b : Nat) (sp : Nat → Bool) (hd : Bool), DataW.TrodAll enc P W' b sp hd f.resultTypes.toList (v.resultList f.resultTypes.size) (s.fn H (ds ++ gs)).results [])
    (hargs : ∀ sp : Nat → Bool, (∀ p ∈ before, sp p.block = true) → DataW.TrodAll enc P W' 0 sp true f.params.toList args.toList (s.fn H (ds ++ gs)).args pa)
    (hvars : ∀ sp : Nat → Bool, (∀ p ∈ before, sp p.block = true) → DataW.TrodVars enc P W' sp s.vars (s.fn H (ds ++ gs)).vars pv)
    (hps : before = pa ++ pv) (hb : Below W.heap.size W W')
    (hok : ∀ (j : Nat) (t : TypeId) (r : Value), f.resultTypes[j]? = some t → (v.resultList f.resultTypes.size)[j]? = some r → Value.okWide P W' .any 0 t r) :
    s.post enc P f apart fresh handsOn again W args v W' := by
  have hold : ∀ p ∈ before, (fun b => decide (b < W.heap.size)) p.block = true := fun p hp => by simpa using hW.lt p hp
  refine ⟨ds, gs, before, [], pa, pv, hW, hres _ _ _, hargs _ hold, hvars _ hold, World.keptBut_mono (fun p hp => ⟨hp, ?_⟩) (hb.frame (· ∈ before)), fun _ => ?_⟩
  · rw [hps, List.mem_append] at hp
    exact Or.inr hp
  · have hlt := hW.lt
    obtain ⟨_, _, _, _, _, hz, hn⟩ := hW
    refine ⟨hok, _, _, ([] ++ pa) ++ pv, ⟨[] ++ pa, pv, trodAll_append (hargs _ (fun _ _ => rfl)) (hres _ _ _), hvars _ (fun _ _ => rfl), rfl, ?_, ?_⟩, ?_⟩
    · intro b off hp
      have hp' : MemPlace.cell b off ∈ before := by rw [hps]; simpa using hp
      rw [hb.frozen (p := _) (hlt _ hp')]
      exact hz b off hp'
    · intro ha
      have := hn ha
      rw [hps] at this
      simpa using this
    · intro p hp _
      rw [hps]
      simpa using hp
end

/-! ### Slices among the arguments -/
section
variable {H : Type} {enc : TypeId × Value → H} {P : Program} {w : World} {spare : Nat → Bool}
theorem trodAll_stays (hl : laidOutB P = true) {W W' : World} (hb : Below W.heap.size W W') {sp : Nat → Bool} :
    ∀ {ts : List TypeId} {vs : List Value} {ds : List (DataW H)} {p : List MemPlace}, (ts.all fun t => P.readableRec t && decide (t < P.types.size)) = true → DataW.TrodAll enc P W 0 (fun _ => true) true ts vs ds p →
      (∀ x ∈ p, x.block < W.heap.size) → (∀ x ∈ p, sp x.block = true) → DataW.TrodAll enc P W' 0 sp true ts vs ds p
  | [], _, _, _, _, h, _, _ => by
    obtain ⟨rfl, rfl, rfl⟩ := trodAll_nil h
    exact trodAll_mk0
  | t :: ts, _, _, _, ha, h, hlt, hs => by
    obtain ⟨v, vs1, d, ds1, a, b, rfl, rfl, rfl, h1, h2⟩ := trodAll_cons h
    simp only [List.all_cons, Bool.and_eq_true, decide_eq_true_eq] at ha
    exact trodAll_cons_mk (WideElems.Trod_stays hl ha.1.1 ha.1.2 h1 (fun x hx => hb.same (hlt x (by simp [hx]))) (fun x hx => hs x (by simp [hx])))
      (trodAll_stays hl hb ha.2 h2 (fun x hx => hlt x (by simp [hx])) (fun x hx => hs x (by simp [hx])))
theorem cell_lt {a : Addr} {v : Value} (h : w.cell? a = some v) : a.block < w.heap.size := by
  cases hb : w.heap[a.block]? with
  | none => simp [World.cell?, hb] at h
  | some o => exact (Array.getElem?_eq_some_iff.1 hb).1
/-- A slice of ints. -/
theorem trod_ints {t e : TypeId} {k : IntKind} {R : ER Int} {fuel : Nat} {cs : List Value} {x : DataW H × List MemPlace} (hR : ∀ (n : Int), (Lit.int k n).wf = true → R w (fun _ => False) [.int k n] n)
    (ht : P.underlying t = some (.slice e)) (he : P.underlying e = some (.int k)) (hc : P.cellsOf e = 1)
    (h : DataW.trod enc P w 0 spare true fuel t cs = some x) : ∃ v xs, cs = [v] ∧ Sl R 1 w (fun _ => False) v xs := by
  rcases Deep.open_slice1 ht hc h with ⟨rfl, _⟩ | ⟨a, len, cap, m, n, V, D, Pl, rfl, _, hlc, hcm, hm, _, hx⟩
  · exact ⟨_, [], rfl, Sl.nil⟩
  · have hlm : len ≤ m := by rw [hm]; split <;> omega
    have hf : ∀ i : Nat, i < len → ∃ z : Int, w.cell? (a.add i) = some (.int k z) ∧ (Lit.int k z).wf = true := fun i hi => by
      obtain ⟨h1, h2⟩ := hx i (by omega)
      obtain ⟨z, h3, _, h4⟩ := DataW.trod_int he h2
      simp only [List.cons.injEq, and_true] at h3
      exact ⟨z, by rw [h1, h3], h4⟩
    let f : Nat → Int := fun i => if hi : i < len then Classical.choose (hf i hi) else 0
    have hff : ∀ i : Nat, i < len → w.cell? (a.add i) = some (.int k (f i)) ∧ (Lit.int k (f i)).wf = true := fun i hi => by
      have := Classical.choose_spec (hf i hi)
      simp only [f, dif_pos hi]
      exact this
    have hll : ((List.range len).map f).length = len := by simp
    refine ⟨_, (List.range len).map f, rfl, some a, cap, by rw [hll], ⟨by rw [hll]; exact hlc, by rw [hll]; exact Nat.le_trans hlc hcm, fun h => by simp at h, fun j y hy => ?_⟩⟩
    obtain ⟨hj, hy⟩ := List.getElem?_eq_some_iff.1 hy
    rw [hll] at hj
    simp only [List.getElem_map, List.getElem_range] at hy
    obtain ⟨h1, h2⟩ := hff j hj
    refine ⟨a, [.int k y], rfl, rfl, ⟨fun _ => ⟨by have := cell_lt h1; simpa using this, id⟩, fun i u hu => ?_⟩, hR y (by rw [← hy]; exact h2)⟩
    cases i with
    | zero =>
      simp only [List.getElem?_cons_zero, Option.some.injEq] at hu
      rw [← hu, Nat.mul_one, Addr.add_zero, h1, hy]
    | succ i => simp at hu
theorem byteR {n : Int} (h : (Lit.int .u8 n).wf = true) : ByteR w (fun _ => False) [.int .u8 n] n := by
  obtain ⟨m, rfl, hm⟩ := u8nat h
  exact ⟨rfl, by omega, by omega⟩
theorem open_bytes {t e : TypeId} {v : Value} {d : DataW H} {ps : List MemPlace} (ht : P.underlying t = some (.slice e)) (he : P.underlying e = some (.int .u8)) (hc : P.cellsOf e = 1) (h : DataW.Trod enc P w 0 spare true t v d ps) (hv : v.cells = #[v]) :
    ∃ xs, Bytes w (fun _ => False) v xs := by
  obtain ⟨fuel, hf⟩ := h
  rw [hv] at hf
  obtain ⟨v', xs, h1, h2⟩ := trod_ints (R := ByteR) (fun n hn => byteR hn) ht he hc hf
  simp only [List.cons.injEq, and_true] at h1
  exact ⟨xs, by rw [h1]; exact h2⟩
theorem open_ints {t e : TypeId} {v : Value} {d : DataW H} {ps : List MemPlace} (ht : P.underlying t = some (.slice e)) (he : P.underlying e = some (.int .i64)) (hc : P.cellsOf e = 1) (h : DataW.Trod enc P w 0 spare true t v d ps) (hv : v.cells = #[v]) :
    ∃ xs, Ints w (fun _ => False) v xs := by
  obtain ⟨fuel, hf⟩ := h
  rw [hv] at hf
  obtain ⟨v', xs, h1, h2⟩ := trod_ints (R := IntR) (fun n hn => ⟨rfl, i64wf hn⟩) ht he hc hf
  simp only [List.cons.injEq, and_true] at h1
  exact ⟨xs, by rw [h1]; exact h2⟩
/-- A slice's value is one cell. -/
theorem slice_cells {t e : TypeId} {v : Value} {b : Nat} {r : Reach} (ht : P.underlying t = some (.slice e)) (h : Value.okWide P w r b t v) : v.cells = #[v] := by
  simp only [Value.okWide, ht, Cell.okWide] at h
  cases v <;> simp_all [Cell.ok, Value.cells]
end
end Go.Proofs.Ytgbajkdomcmblaa
