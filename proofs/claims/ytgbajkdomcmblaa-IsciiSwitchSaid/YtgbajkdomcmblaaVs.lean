/- More rules: elements of arrays behind an address; differences of bytes; arrays of constants. -/
import Derived.Test.YtgbajkdomcmblaaVr
set_option linter.unusedVariables false
set_option linter.unusedSimpArgs false
namespace Go.Proofs.Ytgbajkdomcmblaa.Vc
open Go Go.RowKit
section
variable {P : Program} {n : Nat} {σ : St} {w : World} {ty d t u : Nat} {pos : String} {aft : Array Edge} {x y : Operand} {i j : Int} {kd : IntKind}
theorem Rn.idxArr {a : Addr} {m sz : Nat} (hs : elemSizeA P t = some (m, sz)) (hx : ev σ x = some (.pointer (some a))) (hy : ev σ y = some (.int kd i)) (h0 : 0 ≤ i) (h1 : i < m) : Rn P n σ (⟨some d, .indexAddr t x y, ty, pos, aft, none⟩ : Oper) w (.pointer (some (a.add (i.toNat * sz)))) := by
  intro b ha
  unfold elemSizeA at hs
  cases hu : P.underlying t with
  | none => simp [hu] at hs
  | some ds =>
    cases ds <;> simp only [hu] at hs <;> try (cases hs; done)
    case array l e =>
      cases hinf : P.info? e with
      | none => simp [hinf] at hs
      | some inf =>
        cases hsc : scalar P e with
        | false => simp [hsc] at hs
        | true =>
          simp [hsc, hinf] at hs
          obtain ⟨rfl, rfl⟩ := hs
          simp [execOp, ha.ev hx, ha.ev hy, Instr.indexAt, Instr.sureAddr, run_underlying hu, asIntOf, h0, h1, sizeOf, typeInfo, hinf]
theorem Rn.subk (hx : ev σ x = some (.int kd i)) (hy : ev σ y = some (.int kd j)) (hw : kd.wrap (i - j) = i - j) : Rn P n σ (⟨some d, .binOp .sub t x y u, ty, pos, aft, none⟩ : Oper) w (.int kd (i - j)) := .bin hx hy (by simp [binOp_sub, Op.intArith, hw])
end
/-- A store over one cell of an element of a slice of ours. -/
theorem WL.storeOwnU {α : Type} {R : ER α} [Stable R] {P : Program} {n : Nat} {ops : Array Oper} {Q : Post} {rest : List Oper} {σ : St} {w : World} {ty t : Nat} {pos : String} {aft : Array Edge} {x y : Operand}
    {sz e B len c i off : Nat} {A : Option Addr} {ad : Addr} {M : MS} {xs : List α} {u : Value} {x' : α}
    (hO : Own R sz e w M B (.slice A len c) xs) (hA : A = some ad) (hm : MB w M) (hi : i < xs.length) (ho : off < sz)
    (hs : (tinfo P t).map (·.2.1) = some 1) (hx : ev σ x = some (.pointer (some ((ad.add (i * sz)).add off)))) (hy : ev σ y = some u) (h1 : u.oneCell' = true)
    (hR : ∀ w' cs, Up w M w' M → R w' M cs xs[i] → R w' M (cs.set off u) x')
    (k : ∀ w', Own R sz e w' M B (.slice A len c) (xs.set i x') → Stp w w' (fun k => (Value.slice A len c).ownBlock = some k) → Up w M w' M → WL P n ops Q rest σ w') :
    WL P n ops Q (⟨none, .store t x y, ty, pos, aft, none⟩ :: rest) σ w := by
  subst hA
  obtain ⟨css, o1, o2, o3, ⟨o4, o5⟩, o6, o7⟩ := hO
  rcases o5 with ⟨h, _⟩ | ⟨g, cap, cur, hv, hB, hg, hnc, hcm, hcs, htk⟩
  · cases h
  · cases hv
    have hb : Bk w g e cur.toList := hg
    have hlt : i * sz + off < css.flatten.length := by
      rw [o4]
      have : (i + 1) * sz ≤ xs.length * sz := Nat.mul_le_mul_right _ hi
      rw [Nat.add_mul] at this
      omega
    have hcur : i * sz + off < cur.toList.length := by
      have := congrArg List.length htk
      rw [List.length_take] at this
      omega
    have hx' : ev σ x = some (.pointer (some ⟨g, i * sz + off, none⟩)) := by
      rw [hx, Addr.add_add, Addr.add_lit, Nat.zero_add]
    refine WL.store (o := i * sz + off) hs hx' hy h1 hb hcur (fun w' hb' hst => ?_)
    have hi' : i < css.length := by omega
    have hu : Up w M w' M := Stp.up hst hm fun k _ hk => by rw [hk]; exact o7 g rfl
    refine k w' ⟨css.set i (css[i].set off u), by simp [o1], fun cs hcs' => ?_, fun j y' cs hy' hc => ?_, ⟨?_, .inr ⟨g, c, (cur.toList.set (i * sz + off) u).toArray, by simp, hB, hb', by simpa using hnc, hcm, by simpa using hcs, ?_⟩⟩, by simpa using o6, o7⟩ (hst.mono fun k _ hk => by rw [hk]; rfl) hu
    · rcases List.mem_or_eq_of_mem_set hcs' with h | h
      · exact o2 cs h
      · rw [h]; simpa using o2 _ (List.getElem_mem hi')
    · by_cases hj : i = j
      · subst hj
        rw [List.getElem?_set_self hi] at hy'
        rw [List.getElem?_set_self hi'] at hc
        cases hy'; cases hc
        exact hR w' _ hu (Stable.up (o3 i xs[i] css[i] (List.getElem?_eq_getElem hi) (List.getElem?_eq_getElem hi')) hu)
      · rw [List.getElem?_set_ne hj] at hy' hc
        exact Stable.up (o3 j y' cs hy' hc) hu
    · rw [flatten_set u o2 (List.getElem?_eq_getElem hi') ho]; simp [o4]
    · rw [flatten_set u o2 (List.getElem?_eq_getElem hi') ho]
      simp only [List.length_set]
      rw [← htk]
      exact List.take_set ..
theorem Own.eq {α : Type} {R : ER α} {sz e B : Nat} {w : World} {M : MS} {v : Value} {xs ys : List α} (h : Own R sz e w M B v xs) (he : xs = ys) : Own R sz e w M B v ys := he ▸ h
theorem arr_get {l : List Int} {i : Nat} (h : i < l.length) : ((l.map (Value.int .i64)).toArray)[i]? = some (.int .i64 (l.getD i 0)) := by
  simp [List.getElem?_eq_getElem h, List.getD]
end Go.Proofs.Ytgbajkdomcmblaa.Vc
