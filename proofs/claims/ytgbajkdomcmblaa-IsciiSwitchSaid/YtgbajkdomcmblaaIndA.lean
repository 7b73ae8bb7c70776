/- What package indic's functions come to: walks. -/
import Derived.Test.YtgbajkdomcmblaaIndD
namespace Go.Proofs.Ytgbajkdomcmblaa
open Go Go.RowKit Vc
set_option linter.unusedVariables false
set_option linter.unusedSimpArgs false
private theorem mixed : Try.prog.follows .mixedOrders = true := by kernel_rfl
private theorem esa161 : elemSizeA Try.prog 161 = some (9, 1) := by kernel_rfl
private theorem esa163 : elemSizeA Try.prog 163 = some (74, 1) := by kernel_rfl
private theorem ag163 : aggSize Try.prog 163 = some 74 := by kernel_rfl
private theorem ti3 : tinfo Try.prog 3 = some (some (.int .i64 0), 1, 8) := by kernel_rfl
private theorem ti152 : tinfo Try.prog 152 = some (some (.agg #[.int .i64 0, .int .i64 0]), 2, 16) := by kernel_rfl
private theorem ti163 : tinfo Try.prog 163 = some (some (.agg #[.int .i64 0, .int .i64 0, .int .i64 0, .int .i64 0, .int .i64 0, .int .i64 0, .int .i64 0, .int .i64 0, .int .i64 0, .int .i64 0, .int .i64 0, .int .i64 0, .int .i64 0, .int .i64 0, .int .i64 0, .int .i64 0, .int .i64 0, .int .i64 0, .int .i64 0, .int .i64 0, .int .i64 0, .int .i64 0, .int .i64 0, .int .i64 0, .int .i64 0, .int .i64 0, .int .i64 0, .int .i64 0, .int .i64 0, .int .i64 0, .int .i64 0, .int .i64 0, .int .i64 0, .int .i64 0, .int .i64 0, .int .i64 0, .int .i64 0, .int .i64 0, .int .i64 0, .int .i64 0, .int .i64 0, .int .i64 0, .int .i64 0, .int .i64 0, .int .i64 0, .int .i64 0, .int .i64 0, .int .i64 0, .int .i64 0, .int .i64 0, .int .i64 0, .int .i64 0, .int .i64 0, .int .i64 0, .int .i64 0, .int .i64 0, .int .i64 0, .int .i64 0, .int .i64 0, .int .i64 0, .int .i64 0, .int .i64 0, .int .i64 0, .int .i64 0, .int .i64 0, .int .i64 0, .int .i64 0, .int .i64 0, .int .i64 0, .int .i64 0, .int .i64 0, .int .i64 0, .int .i64 0, .int .i64 0]), 74, 592) := by kernel_rfl
theorem scalar_spec (w : World) (M : MS) (hm : MB w M) (s_ : Int) :
    Fc Try.prog 78 #[.int .i64 s_] w fun v w' => v = .bool (scalarB s_) ∧ Ext w w' := by
  have e0 := Stp.refl w (NoM : MS)
  have hs00 : Ms M M := fun _ h => h
  refine Fc.enter (n := 17) [(0, .int .i64 s_)] Try.func78 rfl rfl (Nat.le_of_ble_eq_true rfl) (.cons rfl (.nil _)) ?_
  refine CW.seq ?_
  refine CW.region ?_
  refine WL.assign rfl ?_
  refine WL.nil ?_
  refine CW.seq ?_
  refine CW.region ?_
  refine WL.move rfl ?_
  refine WL.geq rfl rfl ?_
  refine WL.move rfl ?_
  by_cases hg1 : 0 ≤ s_
  · refine WL.gtake rfl rfl (decide_eq_true hg1) ?_
    refine WL.move rfl ?_
    refine WL.gtake rfl rfl (decide_eq_true hg1) ?_
    refine WL.leq rfl rfl ?_
    refine WL.pickT (congrArg (fun b => some (Value.bool b)) (decide_eq_true hg1)) rfl ?_
    refine WL.move rfl ?_
    by_cases hg2 : s_ ≤ 1114111
    · refine WL.gtake rfl rfl (decide_eq_true hg2) ?_
      refine WL.move rfl ?_
      refine WL.gtake rfl rfl (decide_eq_true hg2) ?_
      refine WL.lss rfl rfl ?_
      refine WL.gtake rfl rfl (decide_eq_true hg2) ?_
      refine WL.move rfl ?_
      by_cases hg3 : s_ < 55296
      · refine WL.gskip rfl rfl (decide_eq_true hg3) ?_
        refine WL.gskip rfl rfl (decide_eq_true hg3) ?_
        refine WL.gtake rfl rfl (decide_eq_true hg2) ?_
        refine WL.pickT (congrArg (fun b => some (Value.bool b)) (decide_eq_true hg3)) rfl ?_
        refine WL.pickT (congrArg (fun b => some (Value.bool b)) (decide_eq_true hg2)) rfl ?_
        refine WL.assign rfl ?_
        refine WL.nil ?_
        refine CW.ret ?_
        refine Ret.one rfl rfl ?_
        refine ⟨congrArg Value.bool ?_, e0⟩
        unfold scalarB
        rw [Bool.eq_iff_iff]
        simp only [Bool.and_eq_true, Bool.or_eq_true, decide_eq_true_eq, Bool.false_eq_true, eq_self_iff_true, true_iff, false_iff]
        omega
      · refine WL.gtake rfl rfl (decide_eq_false hg3) ?_
        refine WL.move rfl ?_
        refine WL.gtake rfl rfl (decide_eq_false hg3) ?_
        refine WL.gtr rfl rfl ?_
        refine WL.gtake rfl rfl (decide_eq_true hg2) ?_
        refine WL.pickF (congrArg (fun b => some (Value.bool b)) (decide_eq_false hg3)) rfl ?_
        refine WL.pickT (congrArg (fun b => some (Value.bool b)) (decide_eq_true hg2)) rfl ?_
        refine WL.assign rfl ?_
        refine WL.nil ?_
        refine CW.ret ?_
        refine Ret.one rfl rfl ?_
        refine ⟨congrArg Value.bool ?_, e0⟩
        unfold scalarB
        rw [Bool.eq_iff_iff]
        simp only [Bool.and_eq_true, Bool.or_eq_true, decide_eq_true_eq, Bool.false_eq_true, eq_self_iff_true, true_iff, false_iff]
        omega
    · refine WL.gskip rfl rfl (decide_eq_false hg2) ?_
      refine WL.gskip rfl rfl (decide_eq_false hg2) ?_
      refine WL.gskip rfl rfl (decide_eq_false hg2) ?_
      refine WL.uskip rfl rfl ?_
      refine WL.uskip rfl rfl ?_
      refine WL.gskip rfl rfl (decide_eq_false hg2) ?_
      refine WL.pickF (congrArg (fun b => some (Value.bool b)) (decide_eq_false hg2)) rfl ?_
      refine WL.assign rfl ?_
      refine WL.nil ?_
      refine CW.ret ?_
      refine Ret.one rfl rfl ?_
      refine ⟨congrArg Value.bool ?_, e0⟩
      unfold scalarB
      rw [Bool.eq_iff_iff]
      simp only [Bool.and_eq_true, Bool.or_eq_true, decide_eq_true_eq, Bool.false_eq_true, eq_self_iff_true, true_iff, false_iff]
      omega
  · refine WL.gskip rfl rfl (decide_eq_false hg1) ?_
    refine WL.gskip rfl rfl (decide_eq_false hg1) ?_
    refine WL.pickF (congrArg (fun b => some (Value.bool b)) (decide_eq_false hg1)) rfl ?_
    refine WL.move rfl ?_
    refine WL.gskip rfl rfl rfl ?_
    refine WL.gskip rfl rfl rfl ?_
    refine WL.gskip rfl rfl rfl ?_
    refine WL.uskip rfl rfl ?_
    refine WL.uskip rfl rfl ?_
    refine WL.gskip rfl rfl rfl ?_
    refine WL.pickF rfl rfl ?_
    refine WL.assign rfl ?_
    refine WL.nil ?_
    refine CW.ret ?_
    refine Ret.one rfl rfl ?_
    refine ⟨congrArg Value.bool ?_, e0⟩
    unfold scalarB
    rw [Bool.eq_iff_iff]
    simp only [Bool.and_eq_true, Bool.or_eq_true, decide_eq_true_eq, Bool.false_eq_true, eq_self_iff_true, true_iff, false_iff]
    omega

theorem of_spec (w : World) (M : MS) (hm : MB w M) (s_ : Int) :
    Fc Try.prog 77 #[.int .i64 s_] w fun v w' => v = ofV s_ ∧ Ext w w' := by
  have e0 := Stp.refl w (NoM : MS)
  have hs00 : Ms M M := fun _ h => h
  refine Fc.enter (n := 21) [(0, .int .i64 s_)] Try.func77 rfl rfl (Nat.le_of_ble_eq_true rfl) (.cons rfl (.nil _)) ?_
  refine CW.seq ?_
  refine CW.region ?_
  refine WL.assign rfl ?_
  refine WL.assign rfl ?_
  refine WL.assign rfl ?_
  refine WL.nil ?_
  refine CW.seq ?_
  refine CW.seq ?_
  refine CW.region ?_
  refine WL.move rfl ?_
  refine WL.lss rfl rfl ?_
  refine WL.move rfl ?_
  by_cases hg1 : s_ < 2304
  · refine WL.gskip rfl rfl (decide_eq_true hg1) ?_
    refine WL.gskip rfl rfl (decide_eq_true hg1) ?_
    refine WL.pickT (congrArg (fun b => some (Value.bool b)) (decide_eq_true hg1)) rfl ?_
    refine WL.move rfl ?_
    refine WL.gskip rfl rfl rfl ?_
    refine WL.gskip rfl rfl rfl ?_
    refine WL.pickT rfl rfl ?_
    refine WL.nil ?_
    refine CW.condT rfl ?_
    refine CW.seq ?_
    refine CW.region ?_
    refine WL.assign rfl ?_
    refine WL.assign rfl ?_
    refine WL.assign rfl ?_
    refine WL.nil ?_
    refine CW.ret ?_
    refine Ret.three rfl rfl rfl rfl ?_
    have hz : indIs s_ = false := by
      unfold indIs
      rw [Bool.not_eq_false', Bool.or_eq_true, Bool.or_eq_true, decide_eq_true_eq, decide_eq_true_eq, decide_eq_true_eq]
      omega
    rw [ofV, hz]
    exact ⟨rfl, e0⟩
  · refine WL.gtake rfl rfl (decide_eq_false hg1) ?_
    refine WL.move rfl ?_
    refine WL.gtake rfl rfl (decide_eq_false hg1) ?_
    refine WL.geq rfl rfl ?_
    refine WL.pickF (congrArg (fun b => some (Value.bool b)) (decide_eq_false hg1)) rfl ?_
    refine WL.move rfl ?_
    by_cases hg2 : 3456 ≤ s_
    · refine WL.gskip rfl rfl (decide_eq_true hg2) ?_
      refine WL.gskip rfl rfl (decide_eq_true hg2) ?_
      refine WL.pickT (congrArg (fun b => some (Value.bool b)) (decide_eq_true hg2)) rfl ?_
      refine WL.nil ?_
      refine CW.condT rfl ?_
      refine CW.seq ?_
      refine CW.region ?_
      refine WL.assign rfl ?_
      refine WL.assign rfl ?_
      refine WL.assign rfl ?_
      refine WL.nil ?_
      refine CW.ret ?_
      refine Ret.three rfl rfl rfl rfl ?_
      have hz : indIs s_ = false := by
        unfold indIs
        rw [Bool.not_eq_false', Bool.or_eq_true, Bool.or_eq_true, decide_eq_true_eq, decide_eq_true_eq, decide_eq_true_eq]
        omega
      rw [ofV, hz]
      exact ⟨rfl, e0⟩
    · refine WL.gtake rfl rfl (decide_eq_false hg2) ?_
      refine WL.move rfl ?_
      refine WL.gtake rfl rfl (decide_eq_false hg2) ?_
      refine WL.eql rfl rfl ?_
      refine WL.pickF (congrArg (fun b => some (Value.bool b)) (decide_eq_false hg2)) rfl ?_
      refine WL.nil ?_
      refine CW.condP rfl (fun hc3 => ?_) (fun hc3 => ?_)
      · refine CW.seq ?_
        refine CW.region ?_
        refine WL.assign rfl ?_
        refine WL.assign rfl ?_
        refine WL.assign rfl ?_
        refine WL.nil ?_
        refine CW.ret ?_
        refine Ret.three rfl rfl rfl rfl ?_
        have hz : indIs s_ = false := by
          unfold indIs
          rw [Bool.not_eq_false', Bool.or_eq_true, Bool.or_eq_true, decide_eq_true_eq, decide_eq_true_eq, decide_eq_true_eq]
          omega
        rw [ofV, hz]
        exact ⟨rfl, e0⟩
      · refine CW.skip ?_
        refine CW.seq ?_
        refine CW.region ?_
        refine WL.move rfl ?_
        refine WL.sub_ rfl rfl (by omega) ?_
        refine WL.quo rfl rfl (by omega) (by omega) (wrapI64 (by omega)) ?_
        refine WL.move rfl ?_
        refine WL.sub_ rfl rfl (by omega) ?_
        refine WL.rem rfl rfl (by omega) (by omega) ?_
        refine WL.assign rfl ?_
        refine WL.assign rfl ?_
        refine WL.assign rfl ?_
        refine WL.nil ?_
        refine CW.ret ?_
        refine Ret.three rfl rfl rfl rfl ?_
        have hz : indIs s_ = true := by
          unfold indIs
          rw [Bool.not_eq_true', Bool.or_eq_false_iff, Bool.or_eq_false_iff, decide_eq_false_iff_not, decide_eq_false_iff_not, decide_eq_false_iff_not]
          omega
        rw [ofV, hz]
        exact ⟨rfl, e0⟩

theorem code1_spec (w : World) (M : MS) (hm : MB w M) {s_ : Int} (h0 : 0 ≤ s_) (h9 : s_ < 9) :
    Fc Try.prog 96 #[.int .i64 s_] w fun v w' => v = .int .i64 (codesL.getD s_.toNat 0) ∧ Ext w w' := by
  have e0 := Stp.refl w (NoM : MS)
  have hs00 : Ms M M := fun _ h => h
  refine Fc.enter (n := 6) [(0, .int .i64 s_)] Try.func96 rfl rfl (Nat.le_of_ble_eq_true rfl) (.cons rfl (.nil _)) ?_
  refine CW.seq ?_
  refine CW.region ?_
  refine WL.assign rfl ?_
  refine WL.nil ?_
  refine CW.seq ?_
  refine CW.region ?_
  refine WL.buildP (cs := #[.int .i64 66, .int .i64 67, .int .i64 75, .int .i64 74, .int .i64 71, .int .i64 68, .int .i64 69, .int .i64 72, .int .i64 73]) (.cons rfl (.cons rfl (.cons rfl (.cons rfl (.cons rfl (.cons rfl (.cons rfl (.cons rfl (.cons rfl (.nil)))))))))) (by kernel_rfl) ?_
  refine WL.move rfl ?_
  refine WL.indexA esa161 rfl rfl (by omega) (by omega) (arr_get (l := codesL) (i := (s_).toNat) (show _ < 9 by omega)) ?_
  refine WL.assign rfl ?_
  refine WL.nil ?_
  refine CW.ret ?_
  refine Ret.one rfl rfl ?_
  exact ⟨rfl, e0⟩

theorem code_spec (w : World) (M : MS) (hm : MB w M) {s_ : Int} (h0 : 0 ≤ s_) (h9 : s_ < 9) :
    Fc Try.prog 80 #[.int .i64 s_] w fun v w' => v = .tuple #[.int .i64 (codesL.getD s_.toNat 0), .bool true] ∧ Ext w w' := by
  have e0 := Stp.refl w (NoM : MS)
  have hs00 : Ms M M := fun _ h => h
  refine Fc.enter (n := 12) [(0, .int .i64 s_)] Try.func80 rfl rfl (Nat.le_of_ble_eq_true rfl) (.cons rfl (.nil _)) ?_
  refine CW.seq ?_
  refine CW.region ?_
  refine WL.assign rfl ?_
  refine WL.assign rfl ?_
  refine WL.nil ?_
  refine CW.seq ?_
  refine CW.seq ?_
  refine CW.region ?_
  refine WL.move rfl ?_
  refine WL.lss rfl rfl ?_
  refine WL.move rfl ?_
  have hev1 : ¬ (s_ < 0) := by omega
  refine WL.gtake rfl rfl (decide_eq_false hev1) ?_
  refine WL.move rfl ?_
  refine WL.gtake rfl rfl (decide_eq_false hev1) ?_
  refine WL.geq rfl rfl ?_
  refine WL.pickF (congrArg (fun b => some (Value.bool b)) (decide_eq_false hev1)) rfl ?_
  refine WL.nil ?_
  have hev2 : ¬ (9 ≤ s_) := by omega
  refine CW.condP rfl (fun hn => absurd hn hev2) (fun _ => ?_)
  refine CW.skip ?_
  refine CW.seq ?_
  refine CW.region ?_
  refine WL.move rfl ?_
  refine WL.call Try.func96 rfl rfl (.cons rfl (.nil)) (code1_spec _ _ hm h0 h9) (fun _ w3 hr4 => ?_)
  obtain ⟨rfl, he5⟩ := hr4
  have u6 := Ext.up he5 hm
  have e7 := Stp.ext e0 he5
  have hm8 := Up.mb u6
  refine WL.assign rfl ?_
  refine WL.assign rfl ?_
  refine WL.nil ?_
  refine CW.ret ?_
  refine Ret.two rfl rfl rfl ?_
  exact ⟨rfl, e7⟩

theorem scalarOf_spec (w : World) (M : MS) (hm : MB w M) {s_ p_ : Int} (h0 : -1000000 ≤ s_) (h9 : s_ ≤ 1000000) (h1 : -1000000 ≤ p_) (h2 : p_ ≤ 1000000) :
    Fc Try.prog 97 #[.int .i64 s_, .int .i64 p_] w fun v w' => v = .int .i64 (2304 + 128 * s_ + p_) ∧ Ext w w' := by
  have e0 := Stp.refl w (NoM : MS)
  have hs00 : Ms M M := fun _ h => h
  refine Fc.enter (n := 10) [(0, .int .i64 s_), (1, .int .i64 p_)] Try.func97 rfl rfl (Nat.le_of_ble_eq_true rfl) (.cons rfl (.cons rfl (.nil _))) ?_
  refine CW.seq ?_
  refine CW.region ?_
  refine WL.assign rfl ?_
  refine WL.nil ?_
  refine CW.seq ?_
  refine CW.region ?_
  refine WL.move rfl ?_
  refine WL.mul rfl rfl (by omega) ?_
  refine WL.add rfl rfl (by omega) ?_
  refine WL.move rfl ?_
  refine WL.add rfl rfl (by omega) ?_
  refine WL.assign rfl ?_
  refine WL.nil ?_
  refine CW.ret ?_
  refine Ret.one rfl rfl ?_
  exact ⟨rfl, e0⟩

theorem places_spec (w : World) (M : MS) (hm : MB w M) :
    Fc Try.prog 117 #[] w fun v w' => v = .agg (placesL.map (Value.int .i64)).toArray ∧ Ext w w' := by
  have e0 := Stp.refl w (NoM : MS)
  have hs00 : Ms M M := fun _ h => h
  refine Fc.enter (n := 2) [] Try.func117 rfl rfl (Nat.le_of_ble_eq_true rfl) (.nil _) ?_
  refine CW.seq ?_
  refine CW.region ?_
  refine WL.alloc (cs := [.int .i64 0, .int .i64 0, .int .i64 0, .int .i64 0, .int .i64 0, .int .i64 0, .int .i64 0, .int .i64 0, .int .i64 0, .int .i64 0, .int .i64 0, .int .i64 0, .int .i64 0, .int .i64 0, .int .i64 0, .int .i64 0, .int .i64 0, .int .i64 0, .int .i64 0, .int .i64 0, .int .i64 0, .int .i64 0, .int .i64 0, .int .i64 0, .int .i64 0, .int .i64 0, .int .i64 0, .int .i64 0, .int .i64 0, .int .i64 0, .int .i64 0, .int .i64 0, .int .i64 0, .int .i64 0, .int .i64 0, .int .i64 0, .int .i64 0, .int .i64 0, .int .i64 0, .int .i64 0, .int .i64 0, .int .i64 0, .int .i64 0, .int .i64 0, .int .i64 0, .int .i64 0, .int .i64 0, .int .i64 0, .int .i64 0, .int .i64 0, .int .i64 0, .int .i64 0, .int .i64 0, .int .i64 0, .int .i64 0, .int .i64 0, .int .i64 0, .int .i64 0, .int .i64 0, .int .i64 0, .int .i64 0, .int .i64 0, .int .i64 0, .int .i64 0, .int .i64 0, .int .i64 0, .int .i64 0, .int .i64 0, .int .i64 0, .int .i64 0, .int .i64 0, .int .i64 0, .int .i64 0, .int .i64 0]) ti163 rfl (fun g1 w2 hg3 hb4 he5 => ?_)
  obtain ⟨M6, u7, mem8, hsub9, hinv10⟩ := Ext.addVar he5 hm hg3 hb4
  have ge11 : ∀ q_, vb g1 q_ → w.heap.size ≤ q_ := fun q_ hq_ => by rw [hq_]; exact hg3
  have mem12 := Ms.one mem8
  have e13 := Stp.ext e0 he5
  have hm14 := Up.mb u7
  have hs015 : Ms M M6 := fun k h => hsub9 k (hs00 k h)
  have fr16 := Ge.le ge11 (Stp.size e0)
  refine WL.nil ?_
  refine CW.seq ?_
  refine CW.region ?_
  refine WL.build (ps := [(0, .int .i64 1), (1, .int .i64 2), (2, .int .i64 3), (3, .int .i64 5), (4, .int .i64 6), (5, .int .i64 7), (6, .int .i64 8), (7, .int .i64 9), (8, .int .i64 10), (9, .int .i64 11), (10, .int .i64 14), (11, .int .i64 15), (12, .int .i64 16), (13, .int .i64 13), (14, .int .i64 18), (15, .int .i64 19), (16, .int .i64 20), (17, .int .i64 17), (18, .int .i64 21), (19, .int .i64 22), (20, .int .i64 23), (21, .int .i64 24), (22, .int .i64 25), (23, .int .i64 26), (24, .int .i64 27), (25, .int .i64 28), (26, .int .i64 29), (27, .int .i64 30), (28, .int .i64 31), (29, .int .i64 32), (30, .int .i64 33), (31, .int .i64 34), (32, .int .i64 35), (33, .int .i64 36), (34, .int .i64 37), (35, .int .i64 38), (36, .int .i64 39), (37, .int .i64 40), (38, .int .i64 41), (39, .int .i64 42), (40, .int .i64 43), (41, .int .i64 44), (42, .int .i64 45), (43, .int .i64 46), (44, .int .i64 47), (45, .int .i64 95), (46, .int .i64 48), (47, .int .i64 49), (48, .int .i64 50), (49, .int .i64 51), (50, .int .i64 52), (51, .int .i64 53), (52, .int .i64 54), (53, .int .i64 55), (54, .int .i64 56), (55, .int .i64 57), (56, .int .i64 (-1)), (57, .int .i64 62), (58, .int .i64 63), (59, .int .i64 64), (60, .int .i64 65), (61, .int .i64 66), (62, .int .i64 67), (63, .int .i64 70), (64, .int .i64 71), (65, .int .i64 72), (66, .int .i64 69), (67, .int .i64 74), (68, .int .i64 75), (69, .int .i64 76), (70, .int .i64 73), (71, .int .i64 77), (72, .int .i64 60), (73, .int .i64 (-1))]) (cs := #[.int .i64 1, .int .i64 2, .int .i64 3, .int .i64 5, .int .i64 6, .int .i64 7, .int .i64 8, .int .i64 9, .int .i64 10, .int .i64 11, .int .i64 14, .int .i64 15, .int .i64 16, .int .i64 13, .int .i64 18, .int .i64 19, .int .i64 20, .int .i64 17, .int .i64 21, .int .i64 22, .int .i64 23, .int .i64 24, .int .i64 25, .int .i64 26, .int .i64 27, .int .i64 28, .int .i64 29, .int .i64 30, .int .i64 31, .int .i64 32, .int .i64 33, .int .i64 34, .int .i64 35, .int .i64 36, .int .i64 37, .int .i64 38, .int .i64 39, .int .i64 40, .int .i64 41, .int .i64 42, .int .i64 43, .int .i64 44, .int .i64 45, .int .i64 46, .int .i64 47, .int .i64 95, .int .i64 48, .int .i64 49, .int .i64 50, .int .i64 51, .int .i64 52, .int .i64 53, .int .i64 54, .int .i64 55, .int .i64 56, .int .i64 57, .int .i64 (-1), .int .i64 62, .int .i64 63, .int .i64 64, .int .i64 65, .int .i64 66, .int .i64 67, .int .i64 70, .int .i64 71, .int .i64 72, .int .i64 69, .int .i64 74, .int .i64 75, .int .i64 76, .int .i64 73, .int .i64 77, .int .i64 60, .int .i64 (-1)]) (fun _ _ => rfl) (by kernel_rfl) ?_
  refine WL.storeAll (vs := [.int .i64 1, .int .i64 2, .int .i64 3, .int .i64 5, .int .i64 6, .int .i64 7, .int .i64 8, .int .i64 9, .int .i64 10, .int .i64 11, .int .i64 14, .int .i64 15, .int .i64 16, .int .i64 13, .int .i64 18, .int .i64 19, .int .i64 20, .int .i64 17, .int .i64 21, .int .i64 22, .int .i64 23, .int .i64 24, .int .i64 25, .int .i64 26, .int .i64 27, .int .i64 28, .int .i64 29, .int .i64 30, .int .i64 31, .int .i64 32, .int .i64 33, .int .i64 34, .int .i64 35, .int .i64 36, .int .i64 37, .int .i64 38, .int .i64 39, .int .i64 40, .int .i64 41, .int .i64 42, .int .i64 43, .int .i64 44, .int .i64 45, .int .i64 46, .int .i64 47, .int .i64 95, .int .i64 48, .int .i64 49, .int .i64 50, .int .i64 51, .int .i64 52, .int .i64 53, .int .i64 54, .int .i64 55, .int .i64 56, .int .i64 57, .int .i64 (-1), .int .i64 62, .int .i64 63, .int .i64 64, .int .i64 65, .int .i64 66, .int .i64 67, .int .i64 70, .int .i64 71, .int .i64 72, .int .i64 69, .int .i64 74, .int .i64 75, .int .i64 76, .int .i64 73, .int .i64 77, .int .i64 60, .int .i64 (-1)]) (by rw [ti163]; rfl) rfl rfl (by simp [Value.oneCell']) hb4 rfl (fun w17 hb18 hs19 => ?_)
  have u20 := Stp.upM hs19 hm14 mem12
  have e21 := Stp.wr e13 hs19 (Wr.ofFr NoM fr16)
  have hm22 := Up.mb u20
  refine WL.nil ?_
  refine CW.ret ?_
  refine Ret.cell1 (cs := [.int .i64 1, .int .i64 2, .int .i64 3, .int .i64 5, .int .i64 6, .int .i64 7, .int .i64 8, .int .i64 9, .int .i64 10, .int .i64 11, .int .i64 14, .int .i64 15, .int .i64 16, .int .i64 13, .int .i64 18, .int .i64 19, .int .i64 20, .int .i64 17, .int .i64 21, .int .i64 22, .int .i64 23, .int .i64 24, .int .i64 25, .int .i64 26, .int .i64 27, .int .i64 28, .int .i64 29, .int .i64 30, .int .i64 31, .int .i64 32, .int .i64 33, .int .i64 34, .int .i64 35, .int .i64 36, .int .i64 37, .int .i64 38, .int .i64 39, .int .i64 40, .int .i64 41, .int .i64 42, .int .i64 43, .int .i64 44, .int .i64 45, .int .i64 46, .int .i64 47, .int .i64 95, .int .i64 48, .int .i64 49, .int .i64 50, .int .i64 51, .int .i64 52, .int .i64 53, .int .i64 54, .int .i64 55, .int .i64 56, .int .i64 57, .int .i64 (-1), .int .i64 62, .int .i64 63, .int .i64 64, .int .i64 65, .int .i64 66, .int .i64 67, .int .i64 70, .int .i64 71, .int .i64 72, .int .i64 69, .int .i64 74, .int .i64 75, .int .i64 76, .int .i64 73, .int .i64 77, .int .i64 60, .int .i64 (-1)]) rfl rfl ag163 hb18  ?_
  exact ⟨rfl, e21⟩

theorem place_spec (w : World) (M : MS) (hm : MB w M) {c_ : Int} (h0 : 0 ≤ c_) (h1 : c_ ≤ 255) :
    Fc Try.prog 111 #[.int .u8 c_] w fun v w' => v = placeV (placeO c_) ∧ Ext w w' := by
  have e0 := Stp.refl w (NoM : MS)
  have hs00 : Ms M M := fun _ h => h
  refine Fc.enter (n := 31) [(0, .int .u8 c_)] Try.func111 rfl rfl (Nat.le_of_ble_eq_true rfl) (.cons rfl (.nil _)) ?_
  refine CW.seq ?_
  refine CW.region ?_
  refine WL.assign rfl ?_
  refine WL.assign rfl ?_
  refine WL.nil ?_
  refine CW.seq ?_
  refine CW.block ?_
  refine CW.seq ?_
  refine CW.region ?_
  refine WL.move rfl ?_
  refine WL.geq rfl rfl ?_
  refine WL.move rfl ?_
  by_cases hg1 : 161 ≤ c_
  · refine WL.gtake rfl rfl (decide_eq_true hg1) ?_
    refine WL.move rfl ?_
    refine WL.gtake rfl rfl (decide_eq_true hg1) ?_
    refine WL.leq rfl rfl ?_
    refine WL.pickT (congrArg (fun b => some (Value.bool b)) (decide_eq_true hg1)) rfl ?_
    refine WL.assign rfl ?_
    refine WL.nil ?_
    refine CW.condP rfl (fun hc2 => ?_) (fun hc2 => ?_)
    · refine CW.seq ?_
      refine CW.region ?_
      refine WL.call Try.func117 rfl rfl (.nil) (places_spec _ _ hm) (fun _ w3 hr4 => ?_)
      obtain ⟨rfl, he5⟩ := hr4
      have u6 := Ext.up he5 hm
      have e7 := Stp.ext e0 he5
      have hm8 := Up.mb u6
      refine WL.move rfl ?_
      refine WL.rn (Rn.subk rfl rfl (wrapU8 (by omega) (by omega))) ?_
      refine WL.indexA esa163 rfl rfl (by omega) (by omega) (arr_get (l := placesL) (i := (c_ - 161).toNat) (show _ < 74 by omega)) ?_
      refine WL.assign rfl ?_
      refine WL.nil ?_
      refine CW.seq ?_
      refine CW.region ?_
      refine WL.move rfl ?_
      refine WL.imax rfl rfl ?_
      refine WL.move rfl ?_
      refine WL.geq rfl rfl ?_
      refine WL.assign rfl ?_
      refine WL.assign rfl ?_
      refine WL.nil ?_
      refine CW.ret ?_
      refine Ret.two rfl rfl rfl ?_
      refine ⟨?_, e7⟩
      unfold placeO
      rw [if_pos (by omega)]
      by_cases hp_ : 0 ≤ placesL.getD (c_ - 161).toNat 0
      · rw [if_pos hp_, decide_eq_true hp_, Int.max_eq_right hp_]; rfl
      · rw [if_neg hp_, decide_eq_false hp_, Int.max_eq_left (by omega)]; rfl
    · refine CW.seq ?_
      refine CW.region ?_
      refine WL.move rfl ?_
      refine WL.geq rfl rfl ?_
      refine WL.move rfl ?_
      by_cases hg9 : 241 ≤ c_
      · refine WL.gtake rfl rfl (decide_eq_true hg9) ?_
        refine WL.move rfl ?_
        refine WL.gtake rfl rfl (decide_eq_true hg9) ?_
        refine WL.leq rfl rfl ?_
        refine WL.pickT (congrArg (fun b => some (Value.bool b)) (decide_eq_true hg9)) rfl ?_
        refine WL.assign rfl ?_
        refine WL.nil ?_
        refine CW.condP rfl (fun hc10 => ?_) (fun hc10 => ?_)
        · refine CW.seq ?_
          refine CW.region ?_
          refine WL.move rfl ?_
          refine WL.convert (by rw [Try.underlying5]; rfl) Try.underlying3 rfl (wrapI64 (by omega)) ?_
          refine WL.add rfl rfl (by omega) ?_
          refine WL.sub_ rfl rfl (by omega) ?_
          refine WL.assign rfl ?_
          refine WL.assign rfl ?_
          refine WL.nil ?_
          refine CW.ret ?_
          refine Ret.two rfl rfl rfl ?_
          refine ⟨?_, e0⟩
          unfold placeO
          rw [if_neg (by omega), if_pos (by omega)]; rfl
        · refine CW.skip ?_
          refine CW.seq ?_
          refine CW.region ?_
          refine WL.assign rfl ?_
          refine WL.assign rfl ?_
          refine WL.nil ?_
          refine CW.ret ?_
          refine Ret.two rfl rfl rfl ?_
          refine ⟨?_, e0⟩
          unfold placeO
          rw [if_neg (by omega), if_neg (by omega)]; rfl
      · refine WL.gskip rfl rfl (decide_eq_false hg9) ?_
        refine WL.gskip rfl rfl (decide_eq_false hg9) ?_
        refine WL.pickF (congrArg (fun b => some (Value.bool b)) (decide_eq_false hg9)) rfl ?_
        refine WL.assign rfl ?_
        refine WL.nil ?_
        refine CW.condF rfl ?_
        refine CW.skip ?_
        refine CW.seq ?_
        refine CW.region ?_
        refine WL.assign rfl ?_
        refine WL.assign rfl ?_
        refine WL.nil ?_
        refine CW.ret ?_
        refine Ret.two rfl rfl rfl ?_
        refine ⟨?_, e0⟩
        unfold placeO
        rw [if_neg (by omega), if_neg (by omega)]; rfl
  · refine WL.gskip rfl rfl (decide_eq_false hg1) ?_
    refine WL.gskip rfl rfl (decide_eq_false hg1) ?_
    refine WL.pickF (congrArg (fun b => some (Value.bool b)) (decide_eq_false hg1)) rfl ?_
    refine WL.assign rfl ?_
    refine WL.nil ?_
    refine CW.condF rfl ?_
    refine CW.seq ?_
    refine CW.region ?_
    refine WL.move rfl ?_
    refine WL.geq rfl rfl ?_
    refine WL.move rfl ?_
    by_cases hg11 : 241 ≤ c_
    · refine WL.gtake rfl rfl (decide_eq_true hg11) ?_
      refine WL.move rfl ?_
      refine WL.gtake rfl rfl (decide_eq_true hg11) ?_
      refine WL.leq rfl rfl ?_
      refine WL.pickT (congrArg (fun b => some (Value.bool b)) (decide_eq_true hg11)) rfl ?_
      refine WL.assign rfl ?_
      refine WL.nil ?_
      refine CW.condP rfl (fun hc12 => ?_) (fun hc12 => ?_)
      · refine CW.seq ?_
        refine CW.region ?_
        refine WL.move rfl ?_
        refine WL.convert (by rw [Try.underlying5]; rfl) Try.underlying3 rfl (wrapI64 (by omega)) ?_
        refine WL.add rfl rfl (by omega) ?_
        refine WL.sub_ rfl rfl (by omega) ?_
        refine WL.assign rfl ?_
        refine WL.assign rfl ?_
        refine WL.nil ?_
        refine CW.ret ?_
        refine Ret.two rfl rfl rfl ?_
        refine ⟨?_, e0⟩
        unfold placeO
        rw [if_neg (by omega), if_pos (by omega)]; rfl
      · refine CW.skip ?_
        refine CW.seq ?_
        refine CW.region ?_
        refine WL.assign rfl ?_
        refine WL.assign rfl ?_
        refine WL.nil ?_
        refine CW.ret ?_
        refine Ret.two rfl rfl rfl ?_
        refine ⟨?_, e0⟩
        unfold placeO
        rw [if_neg (by omega), if_neg (by omega)]; rfl
    · refine WL.gskip rfl rfl (decide_eq_false hg11) ?_
      refine WL.gskip rfl rfl (decide_eq_false hg11) ?_
      refine WL.pickF (congrArg (fun b => some (Value.bool b)) (decide_eq_false hg11)) rfl ?_
      refine WL.assign rfl ?_
      refine WL.nil ?_
      refine CW.condF rfl ?_
      refine CW.skip ?_
      refine CW.seq ?_
      refine CW.region ?_
      refine WL.assign rfl ?_
      refine WL.assign rfl ?_
      refine WL.nil ?_
      refine CW.ret ?_
      refine Ret.two rfl rfl rfl ?_
      refine ⟨?_, e0⟩
      unfold placeO
      rw [if_neg (by omega), if_neg (by omega)]; rfl

theorem nukta_spec (w : World) (M : MS) (hm : MB w M) :
    Fc Try.prog 112 #[] w fun v w' => Sl PairR 2 w' M v nuktaL ∧ Ext w w' := by
  have e0 := Stp.refl w (NoM : MS)
  have hs00 : Ms M M := fun _ h => h
  refine Fc.enter (n := 16) [] Try.func112 rfl rfl (Nat.le_of_ble_eq_true rfl) (.nil _) ?_
  refine CW.seq ?_
  refine CW.region ?_
  refine WL.assign rfl ?_
  refine WL.nil ?_
  refine CW.seq ?_
  refine CW.region ?_
  refine WL.buildP (cs := #[.int .i64 161, .int .i64 80]) (.cons rfl (.cons rfl (.nil))) (by kernel_rfl) ?_
  refine WL.buildP (cs := #[.int .i64 166, .int .i64 12]) (.cons rfl (.cons rfl (.nil))) (by kernel_rfl) ?_
  refine WL.buildP (cs := #[.int .i64 167, .int .i64 97]) (.cons rfl (.cons rfl (.nil))) (by kernel_rfl) ?_
  refine WL.buildP (cs := #[.int .i64 170, .int .i64 96]) (.cons rfl (.cons rfl (.nil))) (by kernel_rfl) ?_
  refine WL.buildP (cs := #[.int .i64 179, .int .i64 88]) (.cons rfl (.cons rfl (.nil))) (by kernel_rfl) ?_
  refine WL.buildP (cs := #[.int .i64 180, .int .i64 89]) (.cons rfl (.cons rfl (.nil))) (by kernel_rfl) ?_
  refine WL.buildP (cs := #[.int .i64 181, .int .i64 90]) (.cons rfl (.cons rfl (.nil))) (by kernel_rfl) ?_
  refine WL.buildP (cs := #[.int .i64 186, .int .i64 91]) (.cons rfl (.cons rfl (.nil))) (by kernel_rfl) ?_
  refine WL.buildP (cs := #[.int .i64 191, .int .i64 92]) (.cons rfl (.cons rfl (.nil))) (by kernel_rfl) ?_
  refine WL.buildP (cs := #[.int .i64 192, .int .i64 93]) (.cons rfl (.cons rfl (.nil))) (by kernel_rfl) ?_
  refine WL.buildP (cs := #[.int .i64 201, .int .i64 94]) (.cons rfl (.cons rfl (.nil))) (by kernel_rfl) ?_
  refine WL.buildP (cs := #[.int .i64 219, .int .i64 98]) (.cons rfl (.cons rfl (.nil))) (by kernel_rfl) ?_
  refine WL.buildP (cs := #[.int .i64 220, .int .i64 99]) (.cons rfl (.cons rfl (.nil))) (by kernel_rfl) ?_
  refine WL.buildP (cs := #[.int .i64 223, .int .i64 68]) (.cons rfl (.cons rfl (.nil))) (by kernel_rfl) ?_
  refine WL.bslice Try.underlying150 ti152 rfl (by decide) (by decide) (.cons rfl (.cons rfl (.cons rfl (.cons rfl (.cons rfl (.cons rfl (.cons rfl (.cons rfl (.cons rfl (.cons rfl (.cons rfl (.cons rfl (.cons rfl (.cons rfl (.nil))))))))))))))) rfl (by simp [Value.cells]) (fun g1 w2 hg3 hb4 he5 => ?_)
  have u7 := Ext.up he5 hm
  have e8 := Stp.ext e0 he5
  have hm9 := Up.mb u7
  have hD6 : SlD PairR 2 w2 M (some ⟨g1, 0, none⟩) 14 nuktaL := Bk.sl2 (R := PairR) (sz := 2) (css := [[.int .i64 161, .int .i64 80], [.int .i64 166, .int .i64 12], [.int .i64 167, .int .i64 97], [.int .i64 170, .int .i64 96], [.int .i64 179, .int .i64 88], [.int .i64 180, .int .i64 89], [.int .i64 181, .int .i64 90], [.int .i64 186, .int .i64 91], [.int .i64 191, .int .i64 92], [.int .i64 192, .int .i64 93], [.int .i64 201, .int .i64 94], [.int .i64 219, .int .i64 98], [.int .i64 220, .int .i64 99], [.int .i64 223, .int .i64 68]]) (ys := nuktaL) hb4 (.cons ⟨rfl, rfl, by decide, by decide⟩ (.cons ⟨rfl, rfl, by decide, by decide⟩ (.cons ⟨rfl, rfl, by decide, by decide⟩ (.cons ⟨rfl, rfl, by decide, by decide⟩ (.cons ⟨rfl, rfl, by decide, by decide⟩ (.cons ⟨rfl, rfl, by decide, by decide⟩ (.cons ⟨rfl, rfl, by decide, by decide⟩ (.cons ⟨rfl, rfl, by decide, by decide⟩ (.cons ⟨rfl, rfl, by decide, by decide⟩ (.cons ⟨rfl, rfl, by decide, by decide⟩ (.cons ⟨rfl, rfl, by decide, by decide⟩ (.cons ⟨rfl, rfl, by decide, by decide⟩ (.cons ⟨rfl, rfl, by decide, by decide⟩ (.cons ⟨rfl, rfl, by decide, by decide⟩ (.nil))))))))))))))) (MB.fresh hm hg3) (by decide)
  refine WL.assign rfl ?_
  refine WL.nil ?_
  refine CW.ret ?_
  refine Ret.one rfl rfl ?_
  exact ⟨SlD.sl hD6, e8⟩

theorem lawNukta_spec (w : World) (M : MS) (hm : MB w M) :
    Fc Try.prog 100 #[] w fun v w' => Sl PairR 2 w' M v nuktaL ∧ Ext w w' := by
  have e0 := Stp.refl w (NoM : MS)
  have hs00 : Ms M M := fun _ h => h
  refine Fc.enter (n := 16) [] Try.func100 rfl rfl (Nat.le_of_ble_eq_true rfl) (.nil _) ?_
  refine CW.seq ?_
  refine CW.region ?_
  refine WL.assign rfl ?_
  refine WL.nil ?_
  refine CW.seq ?_
  refine CW.region ?_
  refine WL.buildP (cs := #[.int .i64 161, .int .i64 80]) (.cons rfl (.cons rfl (.nil))) (by kernel_rfl) ?_
  refine WL.buildP (cs := #[.int .i64 166, .int .i64 12]) (.cons rfl (.cons rfl (.nil))) (by kernel_rfl) ?_
  refine WL.buildP (cs := #[.int .i64 167, .int .i64 97]) (.cons rfl (.cons rfl (.nil))) (by kernel_rfl) ?_
  refine WL.buildP (cs := #[.int .i64 170, .int .i64 96]) (.cons rfl (.cons rfl (.nil))) (by kernel_rfl) ?_
  refine WL.buildP (cs := #[.int .i64 179, .int .i64 88]) (.cons rfl (.cons rfl (.nil))) (by kernel_rfl) ?_
  refine WL.buildP (cs := #[.int .i64 180, .int .i64 89]) (.cons rfl (.cons rfl (.nil))) (by kernel_rfl) ?_
  refine WL.buildP (cs := #[.int .i64 181, .int .i64 90]) (.cons rfl (.cons rfl (.nil))) (by kernel_rfl) ?_
  refine WL.buildP (cs := #[.int .i64 186, .int .i64 91]) (.cons rfl (.cons rfl (.nil))) (by kernel_rfl) ?_
  refine WL.buildP (cs := #[.int .i64 191, .int .i64 92]) (.cons rfl (.cons rfl (.nil))) (by kernel_rfl) ?_
  refine WL.buildP (cs := #[.int .i64 192, .int .i64 93]) (.cons rfl (.cons rfl (.nil))) (by kernel_rfl) ?_
  refine WL.buildP (cs := #[.int .i64 201, .int .i64 94]) (.cons rfl (.cons rfl (.nil))) (by kernel_rfl) ?_
  refine WL.buildP (cs := #[.int .i64 219, .int .i64 98]) (.cons rfl (.cons rfl (.nil))) (by kernel_rfl) ?_
  refine WL.buildP (cs := #[.int .i64 220, .int .i64 99]) (.cons rfl (.cons rfl (.nil))) (by kernel_rfl) ?_
  refine WL.buildP (cs := #[.int .i64 223, .int .i64 68]) (.cons rfl (.cons rfl (.nil))) (by kernel_rfl) ?_
  refine WL.bslice Try.underlying150 ti152 rfl (by decide) (by decide) (.cons rfl (.cons rfl (.cons rfl (.cons rfl (.cons rfl (.cons rfl (.cons rfl (.cons rfl (.cons rfl (.cons rfl (.cons rfl (.cons rfl (.cons rfl (.cons rfl (.nil))))))))))))))) rfl (by simp [Value.cells]) (fun g1 w2 hg3 hb4 he5 => ?_)
  have u7 := Ext.up he5 hm
  have e8 := Stp.ext e0 he5
  have hm9 := Up.mb u7
  have hD6 : SlD PairR 2 w2 M (some ⟨g1, 0, none⟩) 14 nuktaL := Bk.sl2 (R := PairR) (sz := 2) (css := [[.int .i64 161, .int .i64 80], [.int .i64 166, .int .i64 12], [.int .i64 167, .int .i64 97], [.int .i64 170, .int .i64 96], [.int .i64 179, .int .i64 88], [.int .i64 180, .int .i64 89], [.int .i64 181, .int .i64 90], [.int .i64 186, .int .i64 91], [.int .i64 191, .int .i64 92], [.int .i64 192, .int .i64 93], [.int .i64 201, .int .i64 94], [.int .i64 219, .int .i64 98], [.int .i64 220, .int .i64 99], [.int .i64 223, .int .i64 68]]) (ys := nuktaL) hb4 (.cons ⟨rfl, rfl, by decide, by decide⟩ (.cons ⟨rfl, rfl, by decide, by decide⟩ (.cons ⟨rfl, rfl, by decide, by decide⟩ (.cons ⟨rfl, rfl, by decide, by decide⟩ (.cons ⟨rfl, rfl, by decide, by decide⟩ (.cons ⟨rfl, rfl, by decide, by decide⟩ (.cons ⟨rfl, rfl, by decide, by decide⟩ (.cons ⟨rfl, rfl, by decide, by decide⟩ (.cons ⟨rfl, rfl, by decide, by decide⟩ (.cons ⟨rfl, rfl, by decide, by decide⟩ (.cons ⟨rfl, rfl, by decide, by decide⟩ (.cons ⟨rfl, rfl, by decide, by decide⟩ (.cons ⟨rfl, rfl, by decide, by decide⟩ (.cons ⟨rfl, rfl, by decide, by decide⟩ (.nil))))))))))))))) (MB.fresh hm hg3) (by decide)
  refine WL.assign rfl ?_
  refine WL.nil ?_
  refine CW.ret ?_
  refine Ret.one rfl rfl ?_
  exact ⟨SlD.sl hD6, e8⟩

theorem codes_spec (w : World) (M : MS) (hm : MB w M) :
    Fc Try.prog 45 #[] w fun v w' => Sl IntR 1 w' M v codesL ∧ Ext w w' := by
  have e0 := Stp.refl w (NoM : MS)
  have hs00 : Ms M M := fun _ h => h
  refine Fc.enter (n := 2) [] Try.func45 rfl rfl (Nat.le_of_ble_eq_true rfl) (.nil _) ?_
  refine CW.seq ?_
  refine CW.region ?_
  refine WL.assign rfl ?_
  refine WL.nil ?_
  refine CW.seq ?_
  refine CW.region ?_
  refine WL.bslice Try.underlying29 ti3 rfl (by decide) (by decide) (.cons rfl (.cons rfl (.cons rfl (.cons rfl (.cons rfl (.cons rfl (.cons rfl (.cons rfl (.cons rfl (.nil)))))))))) rfl (by simp [Value.cells]) (fun g1 w2 hg3 hb4 he5 => ?_)
  have hD6 : SlD IntR 1 w2 M (some ⟨g1, 0, none⟩) 9 ([66, 67, 75, 74, 71, 68, 69, 72, 73] : List Int) := Bk.ints (xs := [66, 67, 75, 74, 71, 68, 69, 72, 73]) hb4 (by decide) (MB.fresh hm hg3) (by decide)
  have u7 := Ext.up he5 hm
  have e8 := Stp.ext e0 he5
  have hm9 := Up.mb u7
  refine WL.assign rfl ?_
  refine WL.nil ?_
  refine CW.ret ?_
  refine Ret.one rfl rfl ?_
  exact ⟨SlD.sl hD6, e8⟩
end Go.Proofs.Ytgbajkdomcmblaa
