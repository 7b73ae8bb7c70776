/- What the functions of package viet come to, as plain data: walks. -/
import Derived.Test.YtgbajkdomcmblaaRows
import Derived.Test.YtgbajkdomcmblaaVietD
namespace Go.Proofs.Ytgbajkdomcmblaa
open Go Go.RowKit Vc
set_option linter.unusedVariables false
theorem mixed : Try.prog.follows .mixedOrders = true := by kernel_rfl
private theorem fo98_0 : fieldOff Try.prog 98 0 = some 0 := by kernel_rfl
private theorem fo98_1 : fieldOff Try.prog 98 1 = some 1 := by kernel_rfl
private theorem fo98_2 : fieldOff Try.prog 98 2 = some 2 := by kernel_rfl
private theorem es93 : elemSize Try.prog 93 = some 1 := by kernel_rfl
private theorem es94 : elemSize Try.prog 94 = some 8 := by kernel_rfl
private theorem esa96 : elemSizeA Try.prog 96 = some (6, 1) := by kernel_rfl
private theorem sc3 : scalar Try.prog 3 = true := by kernel_rfl
private theorem sc4 : scalar Try.prog 4 = true := by kernel_rfl
private theorem ag96 : aggSize Try.prog 96 = some 6 := by kernel_rfl
private theorem ag98 : aggSize Try.prog 98 = some 8 := by kernel_rfl
private theorem ti3 : tinfo Try.prog 3 = some (some (.int .i64 0), 1, 8) := by kernel_rfl
private theorem ti4 : tinfo Try.prog 4 = some (some (.bool false), 1, 1) := by kernel_rfl
private theorem ti26 : tinfo Try.prog 26 = some (some (.agg #[.int .i64 0, .complex .f64 0 0]), 2, 24) := by kernel_rfl
private theorem ti98 : tinfo Try.prog 98 = some (some (.agg #[.int .i64 0, .int .i64 0, .int .i64 0, .int .i64 0, .int .i64 0, .int .i64 0, .int .i64 0, .int .i64 0]), 8, 64) := by kernel_rfl
theorem Upper_spec (w : World) (M : MS) (hm : MB w M) {a : Int} (h0 : 0 ≤ a) (h1 : a ≤ 100000) :
    Fc Try.prog 23 #[.int .i64 a] w fun v w' => v = .int .i64 (upperI a) ∧ Ext w w' := by
  have e0 := Stp.refl w (fun _ => False)
  refine Fc.enter (n := 10) [(0, .int .i64 a)] Try.func23 rfl rfl (Nat.le_of_ble_eq_true rfl) (.cons rfl (.nil _)) ?_
  refine CW.seq ?_
  refine CW.region ?_
  refine WL.assign rfl ?_
  refine WL.nil ?_
  refine CW.seq ?_
  refine CW.block ?_
  refine CW.seq ?_
  refine CW.region ?_
  refine WL.move rfl ?_
  refine WL.lss rfl rfl ?_
  refine WL.assign rfl ?_
  refine WL.nil ?_
  refine CW.condP rfl (fun hc1 => ?_) (fun hc1 => ?_)
  · refine CW.seq ?_
    refine CW.region ?_
    refine WL.move rfl ?_
    refine WL.sub_ rfl rfl (by omega) ?_
    refine WL.assign rfl ?_
    refine WL.nil ?_
    refine CW.ret ?_
    refine Ret.one rfl rfl ?_
    refine ⟨?_, e0⟩
    exact congrArg (Value.int .i64) (if_pos hc1).symm
  · refine CW.skip ?_
    refine CW.seq ?_
    refine CW.region ?_
    refine WL.move rfl ?_
    refine WL.sub_ rfl rfl (by omega) ?_
    refine WL.assign rfl ?_
    refine WL.nil ?_
    refine CW.ret ?_
    refine Ret.one rfl rfl ?_
    refine ⟨?_, e0⟩
    exact congrArg (Value.int .i64) (if_neg hc1).symm

theorem upper_spec (w : World) (M : MS) (hm : MB w M) {a : Int} (h0 : 0 ≤ a) (h1 : a ≤ 100000) :
    Fc Try.prog 60 #[.int .i64 a] w fun v w' => v = .int .i64 (upperI a) ∧ Ext w w' := by
  have e0 := Stp.refl w (fun _ => False)
  refine Fc.enter (n := 9) [(0, .int .i64 a)] Try.func60 rfl rfl (Nat.le_of_ble_eq_true rfl) (.cons rfl (.nil _)) ?_
  refine CW.seq ?_
  refine CW.region ?_
  refine WL.assign rfl ?_
  refine WL.nil ?_
  refine CW.seq ?_
  refine CW.seq ?_
  refine CW.region ?_
  refine WL.move rfl ?_
  refine WL.lss rfl rfl ?_
  refine WL.nil ?_
  refine CW.condP rfl (fun hc1 => ?_) (fun hc1 => ?_)
  · refine CW.seq ?_
    refine CW.region ?_
    refine WL.move rfl ?_
    refine WL.sub_ rfl rfl (by omega) ?_
    refine WL.assign rfl ?_
    refine WL.nil ?_
    refine CW.ret ?_
    refine Ret.one rfl rfl ?_
    refine ⟨?_, e0⟩
    exact congrArg (Value.int .i64) (if_pos hc1).symm
  · refine CW.skip ?_
    refine CW.seq ?_
    refine CW.region ?_
    refine WL.move rfl ?_
    refine WL.sub_ rfl rfl (by omega) ?_
    refine WL.assign rfl ?_
    refine WL.nil ?_
    refine CW.ret ?_
    refine Ret.one rfl rfl ?_
    refine ⟨?_, e0⟩
    exact congrArg (Value.int .i64) (if_neg hc1).symm

theorem rows_spec (w : World) (M : MS) (hm : MB w M) :
    Fc Try.prog 61 #[] w fun v w' => Sl VRowR 8 w' M v vietRows ∧ Ext w w' := by
  have e0 := Stp.refl w (fun _ => False)
  refine Fc.enter (n := 30) [] Try.func61 rfl rfl (Nat.le_of_ble_eq_true rfl) (.nil _) ?_
  refine CW.seq ?_
  refine CW.region ?_
  refine WL.assign rfl ?_
  refine WL.nil ?_
  refine CW.seq ?_
  refine CW.region ?_
  refine WL.buildP (cs := #[.int .i64 97, .int .i64 224, .int .i64 225, .int .i64 7843, .int .i64 227, .int .i64 7841]) (.cons rfl (.cons rfl (.cons rfl (.cons rfl (.cons rfl (.cons rfl (.nil))))))) (by kernel_rfl) ?_
  refine WL.buildP (cs := #[.int .i64 97, .int .i64 0, .int .i64 97, .int .i64 224, .int .i64 225, .int .i64 7843, .int .i64 227, .int .i64 7841]) (.cons rfl (.cons rfl (.cons rfl (.nil)))) (by kernel_rfl) ?_
  refine WL.buildP (cs := #[.int .i64 259, .int .i64 7857, .int .i64 7855, .int .i64 7859, .int .i64 7861, .int .i64 7863]) (.cons rfl (.cons rfl (.cons rfl (.cons rfl (.cons rfl (.cons rfl (.nil))))))) (by kernel_rfl) ?_
  refine WL.buildP (cs := #[.int .i64 97, .int .i64 1, .int .i64 259, .int .i64 7857, .int .i64 7855, .int .i64 7859, .int .i64 7861, .int .i64 7863]) (.cons rfl (.cons rfl (.cons rfl (.nil)))) (by kernel_rfl) ?_
  refine WL.buildP (cs := #[.int .i64 226, .int .i64 7847, .int .i64 7845, .int .i64 7849, .int .i64 7851, .int .i64 7853]) (.cons rfl (.cons rfl (.cons rfl (.cons rfl (.cons rfl (.cons rfl (.nil))))))) (by kernel_rfl) ?_
  refine WL.buildP (cs := #[.int .i64 97, .int .i64 2, .int .i64 226, .int .i64 7847, .int .i64 7845, .int .i64 7849, .int .i64 7851, .int .i64 7853]) (.cons rfl (.cons rfl (.cons rfl (.nil)))) (by kernel_rfl) ?_
  refine WL.buildP (cs := #[.int .i64 101, .int .i64 232, .int .i64 233, .int .i64 7867, .int .i64 7869, .int .i64 7865]) (.cons rfl (.cons rfl (.cons rfl (.cons rfl (.cons rfl (.cons rfl (.nil))))))) (by kernel_rfl) ?_
  refine WL.buildP (cs := #[.int .i64 101, .int .i64 0, .int .i64 101, .int .i64 232, .int .i64 233, .int .i64 7867, .int .i64 7869, .int .i64 7865]) (.cons rfl (.cons rfl (.cons rfl (.nil)))) (by kernel_rfl) ?_
  refine WL.buildP (cs := #[.int .i64 234, .int .i64 7873, .int .i64 7871, .int .i64 7875, .int .i64 7877, .int .i64 7879]) (.cons rfl (.cons rfl (.cons rfl (.cons rfl (.cons rfl (.cons rfl (.nil))))))) (by kernel_rfl) ?_
  refine WL.buildP (cs := #[.int .i64 101, .int .i64 2, .int .i64 234, .int .i64 7873, .int .i64 7871, .int .i64 7875, .int .i64 7877, .int .i64 7879]) (.cons rfl (.cons rfl (.cons rfl (.nil)))) (by kernel_rfl) ?_
  refine WL.buildP (cs := #[.int .i64 105, .int .i64 236, .int .i64 237, .int .i64 7881, .int .i64 297, .int .i64 7883]) (.cons rfl (.cons rfl (.cons rfl (.cons rfl (.cons rfl (.cons rfl (.nil))))))) (by kernel_rfl) ?_
  refine WL.buildP (cs := #[.int .i64 105, .int .i64 0, .int .i64 105, .int .i64 236, .int .i64 237, .int .i64 7881, .int .i64 297, .int .i64 7883]) (.cons rfl (.cons rfl (.cons rfl (.nil)))) (by kernel_rfl) ?_
  refine WL.buildP (cs := #[.int .i64 111, .int .i64 242, .int .i64 243, .int .i64 7887, .int .i64 245, .int .i64 7885]) (.cons rfl (.cons rfl (.cons rfl (.cons rfl (.cons rfl (.cons rfl (.nil))))))) (by kernel_rfl) ?_
  refine WL.buildP (cs := #[.int .i64 111, .int .i64 0, .int .i64 111, .int .i64 242, .int .i64 243, .int .i64 7887, .int .i64 245, .int .i64 7885]) (.cons rfl (.cons rfl (.cons rfl (.nil)))) (by kernel_rfl) ?_
  refine WL.buildP (cs := #[.int .i64 244, .int .i64 7891, .int .i64 7889, .int .i64 7893, .int .i64 7895, .int .i64 7897]) (.cons rfl (.cons rfl (.cons rfl (.cons rfl (.cons rfl (.cons rfl (.nil))))))) (by kernel_rfl) ?_
  refine WL.buildP (cs := #[.int .i64 111, .int .i64 2, .int .i64 244, .int .i64 7891, .int .i64 7889, .int .i64 7893, .int .i64 7895, .int .i64 7897]) (.cons rfl (.cons rfl (.cons rfl (.nil)))) (by kernel_rfl) ?_
  refine WL.buildP (cs := #[.int .i64 417, .int .i64 7901, .int .i64 7899, .int .i64 7903, .int .i64 7905, .int .i64 7907]) (.cons rfl (.cons rfl (.cons rfl (.cons rfl (.cons rfl (.cons rfl (.nil))))))) (by kernel_rfl) ?_
  refine WL.buildP (cs := #[.int .i64 111, .int .i64 3, .int .i64 417, .int .i64 7901, .int .i64 7899, .int .i64 7903, .int .i64 7905, .int .i64 7907]) (.cons rfl (.cons rfl (.cons rfl (.nil)))) (by kernel_rfl) ?_
  refine WL.buildP (cs := #[.int .i64 117, .int .i64 249, .int .i64 250, .int .i64 7911, .int .i64 361, .int .i64 7909]) (.cons rfl (.cons rfl (.cons rfl (.cons rfl (.cons rfl (.cons rfl (.nil))))))) (by kernel_rfl) ?_
  refine WL.buildP (cs := #[.int .i64 117, .int .i64 0, .int .i64 117, .int .i64 249, .int .i64 250, .int .i64 7911, .int .i64 361, .int .i64 7909]) (.cons rfl (.cons rfl (.cons rfl (.nil)))) (by kernel_rfl) ?_
  refine WL.buildP (cs := #[.int .i64 432, .int .i64 7915, .int .i64 7913, .int .i64 7917, .int .i64 7919, .int .i64 7921]) (.cons rfl (.cons rfl (.cons rfl (.cons rfl (.cons rfl (.cons rfl (.nil))))))) (by kernel_rfl) ?_
  refine WL.buildP (cs := #[.int .i64 117, .int .i64 3, .int .i64 432, .int .i64 7915, .int .i64 7913, .int .i64 7917, .int .i64 7919, .int .i64 7921]) (.cons rfl (.cons rfl (.cons rfl (.nil)))) (by kernel_rfl) ?_
  refine WL.buildP (cs := #[.int .i64 121, .int .i64 7923, .int .i64 253, .int .i64 7927, .int .i64 7929, .int .i64 7925]) (.cons rfl (.cons rfl (.cons rfl (.cons rfl (.cons rfl (.cons rfl (.nil))))))) (by kernel_rfl) ?_
  refine WL.buildP (cs := #[.int .i64 121, .int .i64 0, .int .i64 121, .int .i64 7923, .int .i64 253, .int .i64 7927, .int .i64 7929, .int .i64 7925]) (.cons rfl (.cons rfl (.cons rfl (.nil)))) (by kernel_rfl) ?_
  refine WL.buildP (cs := #[.int .i64 100, .int .i64 0, .int .i64 0, .int .i64 0, .int .i64 0, .int .i64 0]) (.cons rfl (.nil)) (by kernel_rfl) ?_
  refine WL.buildP (cs := #[.int .i64 100, .int .i64 0, .int .i64 100, .int .i64 0, .int .i64 0, .int .i64 0, .int .i64 0, .int .i64 0]) (.cons rfl (.cons rfl (.cons rfl (.nil)))) (by kernel_rfl) ?_
  refine WL.buildP (cs := #[.int .i64 273, .int .i64 0, .int .i64 0, .int .i64 0, .int .i64 0, .int .i64 0]) (.cons rfl (.nil)) (by kernel_rfl) ?_
  refine WL.buildP (cs := #[.int .i64 100, .int .i64 4, .int .i64 273, .int .i64 0, .int .i64 0, .int .i64 0, .int .i64 0, .int .i64 0]) (.cons rfl (.cons rfl (.cons rfl (.nil)))) (by kernel_rfl) ?_
  refine WL.bslice Try.underlying94 ti98 rfl (by decide) (by decide) (.cons rfl (.cons rfl (.cons rfl (.cons rfl (.cons rfl (.cons rfl (.cons rfl (.cons rfl (.cons rfl (.cons rfl (.cons rfl (.cons rfl (.cons rfl (.cons rfl (.nil))))))))))))))) rfl (by simp [Value.cells]) (fun g w1 hg hb he => ?_)
  have hb2 : Bk w1 g 98 (vietRows.map VRow.cells).flatten := hb
  have hn := MB.fresh hm hg
  have hD := Bk.sl (R := VRowR) (sz := 8) VRow.cells hb2 (fun x _ => ⟨rfl, rfl⟩) hn (by decide)
  have u1 := Ext.up he hm
  have e2 := Ext.trans e0 he
  have hm3 := Up.mb u1
  refine WL.assign rfl ?_
  refine WL.nil ?_
  refine CW.ret ?_
  refine Ret.one rfl rfl ?_
  exact ⟨⟨_, _, rfl, hD⟩, e2⟩

theorem All_spec (w : World) (M : MS) (hm : MB w M) :
    Fc Try.prog 22 #[] w fun v w' => ∃ a b, v = .tuple #[a, b] ∧ Sl LtR 2 w' M a (vietAll.map (·.1)) ∧ Sl IntR 1 w' M b (vietAll.map (·.2)) ∧ Ext w w' := by
  have e0 := Stp.refl w (fun _ => False)
  have hvl : vietRows.length = 14 := rfl
  refine Fc.enter (n := 58) [] Try.func22 rfl rfl (Nat.le_of_ble_eq_true rfl) (.nil _) ?_
  refine CW.seq ?_
  refine CW.region ?_
  refine WL.assign rfl ?_
  refine WL.assign rfl ?_
  refine WL.nil ?_
  refine CW.seq ?_
  refine CW.region ?_
  refine WL.assign rfl ?_
  refine WL.nil ?_
  refine CW.seq ?_
  refine CW.region ?_
  refine WL.assign rfl ?_
  refine WL.nil ?_
  refine CW.seq ?_
  refine CW.seq ?_
  refine CW.region ?_
  refine WL.bslice Try.underlying93 ti4 rfl (by decide) (by decide) (.cons rfl (.cons rfl .nil)) rfl (by simp [Value.cells]) (fun g0 w1 hg0 hb0 he0 => ?_)
  have hb0' : Bk w1 g0 4 ([false, true].map fun b => [Value.bool b]).flatten := hb0
  have hn0 := MB.fresh hm hg0
  have hDb := Bk.sl (R := BoolR) (sz := 1) (fun b => [Value.bool b]) hb0' (fun x _ => ⟨rfl, rfl⟩) hn0 (by decide)
  have u1 := Ext.up he0 hm
  have e2 := Ext.trans e0 he0
  have hm3 := Up.mb u1
  refine WL.len Try.underlying93 rfl ?_
  refine WL.move rfl ?_
  refine WL.nil ?_
  refine CW.block ?_
  refine CW.loop (fun m σ wr0 => ∃ i : Nat, ∃ vl0 : Value, ∃ vs0 : Value, ∃ Mr4 : MS, m = 2 - i ∧ σ = [(2, vl0), (3, vs0), (11, .slice (some ⟨g0, 0, none⟩) 2 2), (12, .int .i64 2), (13, .int .i64 (i : Int))] ∧ (Up w1 M wr0 Mr4) ∧ (Ext w wr0) ∧ (Own LtR 2 26 wr0 Mr4 w.heap.size vl0 ((upsLets i).map (·.1))) ∧ (Own IntR 1 3 wr0 Mr4 w.heap.size vs0 ((upsLets i).map (·.2))) ∧ (∀ k, M k → Mr4 k) ∧ (i ≤ 2)) _ _ (.cons (t := 2) rfl (.cons (t := 3) rfl (.cons (t := 11) rfl (.cons (t := 12) rfl (.cons (t := 13) rfl (.nil _)))))) ⟨0, (.slice none 0 0), (.slice none 0 0), M, rfl, rfl, Up.refl hm3, e2, Own.nil, Own.nil, (fun _ h => h), by omega⟩ ?_
  rintro m _ wr0 ⟨i, vl0, vs0, Mr4, rfl, rfl, hU5, hE6, hO8, hO9, hsb10, hi⟩
  have hm7 := Up.mb hU5
  refine CW.seq ?_
  refine CW.region ?_
  refine WL.lss rfl rfl ?_
  refine WL.nil ?_
  refine CW.seq ?_
  refine CW.condP rfl (fun hc12 => ?_) (fun hc12 => ?_)
  · refine CW.skip ?_
    refine CW.seq ?_
    refine CW.block ?_
    refine CW.seq ?_
    refine CW.region ?_
    have hi2 : i < 2 := by omega
    obtain ⟨adb, csb, hAb, _, hatb, hRb⟩ := SlD.get (hDb.up hU5) (List.getElem?_eq_getElem (show i < [false, true].length from hi2))
    have hcb := hatb.cell 0 (.bool ([false, true][i])) (by rw [show csb = _ from hRb]; rfl)
    refine WL.idx es93 rfl rfl hAb (by omega) (by omega) ?_
    refine WL.load sc4 rfl hcb ?_
    refine WL.assign rfl ?_
    refine WL.nil ?_
    refine CW.seq ?_
    refine CW.region ?_
    refine WL.call Try.func61 rfl rfl .nil (rows_spec _ _ hm7) (fun vr w2 hr => ?_)
    obtain ⟨⟨Ar, cr, rfl, hDr⟩, her⟩ := hr
    have u13 := Ext.up her hm7
    have e14 := Ext.trans hE6 her
    have hm15 := Up.mb u13
    have hO16 := Own.ext hO8 her u13 (fun _ h => h)
    have hO17 := Own.ext hO9 her u13 (fun _ h => h)
    refine WL.len Try.underlying94 rfl ?_
    refine WL.move rfl ?_
    refine WL.nil ?_
    refine CW.block ?_
    refine CW.loop (fun m σ wr1 => ∃ j : Nat, ∃ vl1 : Value, ∃ vs1 : Value, ∃ Mr18 : MS, m = 14 - j ∧ σ = [(2, vl1), (3, vs1), (5, .bool ([false, true][i])), (11, .slice (some ⟨g0, 0, none⟩) 2 2), (12, .int .i64 2), (13, .int .i64 (i : Int)), (17, .slice Ar vietRows.length cr), (18, .int .i64 (vietRows.length : Int)), (19, .int .i64 (j : Int))] ∧ (Up w2 Mr4 wr1 Mr18) ∧ (Ext w wr1) ∧ (Own LtR 2 26 wr1 Mr18 w.heap.size vl1 ((upsLets i ++ rowsLets ([false, true][i]) j).map (·.1))) ∧ (Own IntR 1 3 wr1 Mr18 w.heap.size vs1 ((upsLets i ++ rowsLets ([false, true][i]) j).map (·.2))) ∧ (∀ k, M k → Mr18 k) ∧ (j ≤ 14)) _ _ (.cons (t := 2) rfl (.cons (t := 3) rfl (.cons (t := 5) rfl (.cons (t := 11) rfl (.cons (t := 12) rfl (.cons (t := 13) rfl (.cons (t := 17) rfl (.cons (t := 18) rfl (.cons (t := 19) rfl (.nil _)))))))))) ⟨0, _, _, Mr4, rfl, rfl, Up.refl hm15, e14, by simpa [rowsLets] using hO16, by simpa [rowsLets] using hO17, hsb10, by omega⟩ ?_
    rintro m _ wr1 ⟨j, vl1, vs1, Mr18, rfl, rfl, hU19, hE20, hO22, hO23, hsb24, hj⟩
    have hm21 := Up.mb hU19
    refine CW.seq ?_
    refine CW.region ?_
    refine WL.lss rfl rfl ?_
    refine WL.nil ?_
    refine CW.seq ?_
    refine CW.condP rfl (fun hc26 => ?_) (fun hc26 => ?_)
    · refine CW.skip ?_
      refine CW.seq ?_
      refine CW.block ?_
      refine CW.seq ?_
      refine CW.region ?_
      have hj2 : j < vietRows.length := by show j < 14; omega
      obtain ⟨adr, csr, hAr, _, hatr, hRr⟩ := SlD.get (hDr.up hU19) (List.getElem?_eq_getElem hj2)
      rw [show csr = _ from hRr] at hatr
      obtain ⟨hb1, hb2, hm1, hm2, hsc⟩ := vrow_ok hj2
      refine WL.idx es94 rfl rfl hAr (by omega) (by omega) ?_
      refine WL.loadAgg (cs := [.int .i64 (vietRows[j].b), .int .i64 (vietRows[j].m), .int .i64 (vietRows[j].s0), .int .i64 (vietRows[j].s1), .int .i64 (vietRows[j].s2), .int .i64 (vietRows[j].s3), .int .i64 (vietRows[j].s4), .int .i64 (vietRows[j].s5)]) ag98 rfl hatr ?_
      refine WL.alloc (cs := [.int .i64 0, .int .i64 0, .int .i64 0, .int .i64 0, .int .i64 0, .int .i64 0, .int .i64 0, .int .i64 0]) ti98 rfl (fun g27 w28 hg29 hb30 he31 => ?_)
      have u32 := Ext.up he31 hm21
      have e33 := Ext.trans hE20 he31
      have hm34 := Up.mb u32
      have hO35 := Own.ext hO22 he31 u32 (fun _ h => h)
      have hO36 := Own.ext hO23 he31 u32 (fun _ h => h)
      have hb40 := hb30
      refine WL.storeAll (vs := [.int .i64 (vietRows[j].b), .int .i64 (vietRows[j].m), .int .i64 (vietRows[j].s0), .int .i64 (vietRows[j].s1), .int .i64 (vietRows[j].s2), .int .i64 (vietRows[j].s3), .int .i64 (vietRows[j].s4), .int .i64 (vietRows[j].s5)]) (by rw [ti98]; rfl) rfl rfl (by simp [Value.oneCell']) hb40 rfl (fun w37 hb38 hs39 => ?_)
      have he41 : Ext wr1 w37 := Stp.trans he31 hs39 (fun k hk => .inr (by rw [hk]; exact hg29))
      have hn42 := MB.fresh hm21 hg29
      have u43 := Ext.up he41 hm21
      have e44 := Ext.trans hE20 he41
      have hm45 := Up.mb u43
      have hO46 := Own.ext hO22 he41 u43 (fun _ h => h)
      have hO47 := Own.ext hO23 he41 u43 (fun _ h => h)
      have ha48 := Bk.at_ hb38 hn42
      refine WL.nil ?_
      refine CW.seq ?_
      refine CW.region ?_
      refine WL.fieldAddr fo98_2 rfl ?_
      refine WL.loadAgg (cs := [.int .i64 (vietRows[j].s0), .int .i64 (vietRows[j].s1), .int .i64 (vietRows[j].s2), .int .i64 (vietRows[j].s3), .int .i64 (vietRows[j].s4), .int .i64 (vietRows[j].s5)]) ag96 rfl (At.take (At.drop ha48 2) 6) ?_
      refine WL.move rfl ?_
      refine WL.nil ?_
      refine CW.block ?_
      refine CW.loop (fun m σ wr2 => ∃ t : Nat, ∃ vl2 : Value, ∃ vs2 : Value, ∃ Mr49 : MS, m = 6 - t ∧ σ = [(2, vl2), (3, vs2), (5, .bool ([false, true][i])), (7, .pointer (some ⟨g27, 0, none⟩)), (11, .slice (some ⟨g0, 0, none⟩) 2 2), (12, .int .i64 2), (13, .int .i64 (i : Int)), (17, .slice Ar vietRows.length cr), (18, .int .i64 (vietRows.length : Int)), (19, .int .i64 (j : Int)), (24, .agg #[.int .i64 (vietRows[j].s0), .int .i64 (vietRows[j].s1), .int .i64 (vietRows[j].s2), .int .i64 (vietRows[j].s3), .int .i64 (vietRows[j].s4), .int .i64 (vietRows[j].s5)]), (25, .int .i64 (t : Int))] ∧ (Up w37 Mr18 wr2 Mr49) ∧ (Ext w wr2) ∧ (Own LtR 2 26 wr2 Mr49 w.heap.size vl2 ((upsLets i ++ rowsLets ([false, true][i]) j ++ rowLets ([false, true][i]) vietRows[j] t).map (·.1))) ∧ (Own IntR 1 3 wr2 Mr49 w.heap.size vs2 ((upsLets i ++ rowsLets ([false, true][i]) j ++ rowLets ([false, true][i]) vietRows[j] t).map (·.2))) ∧ (∀ k, M k → Mr49 k) ∧ (t ≤ 6)) _ _ (.cons (t := 2) rfl (.cons (t := 3) rfl (.cons (t := 5) rfl (.cons (t := 7) rfl (.cons (t := 11) rfl (.cons (t := 12) rfl (.cons (t := 13) rfl (.cons (t := 17) rfl (.cons (t := 18) rfl (.cons (t := 19) rfl (.cons (t := 24) rfl (.cons (t := 25) rfl (.nil _))))))))))))) ⟨0, _, _, Mr18, rfl, rfl, Up.refl hm45, e44, by simpa [rowLets] using hO46, by simpa [rowLets] using hO47, hsb24, by omega⟩ ?_
      rintro m _ wr2 ⟨t, vl2, vs2, Mr49, rfl, rfl, hU50, hE51, hO53, hO54, hsb55, ht⟩
      have hm52 := Up.mb hU50
      have l1 := upsLets_len i
      have l2 := rowsLets_len ([false, true][i]) j
      have l3 := rowLets_len ([false, true][i]) vietRows[j] t
      refine CW.seq ?_
      refine CW.region ?_
      refine WL.lss rfl rfl ?_
      refine WL.nil ?_
      refine CW.seq ?_
      refine CW.condP rfl (fun hc57 => ?_) (fun hc57 => ?_)
      · refine CW.skip ?_
        refine CW.seq ?_
        refine CW.block ?_
        refine CW.seq ?_
        refine CW.region ?_
        refine WL.move rfl ?_
        have ht2 : t < 6 := by omega
        have hst := hsc t ht2
        refine WL.indexA esa96 rfl rfl (by omega) (by omega) (VRow.idx vietRows[j] (k := t) ht2) ?_
        refine WL.assign rfl ?_
        refine WL.assign rfl ?_
        refine WL.nil ?_
        refine CW.seq ?_
        refine CW.seq ?_
        refine CW.region ?_
        refine WL.move rfl ?_
        refine WL.eql rfl rfl ?_
        refine WL.nil ?_
        refine CW.condP rfl (fun hc58 => ?_) (fun hc58 => ?_)
        · have hz : vietRows[j].sc t = 0 := hc58
          refine CW.exit ?_
          refine CW.region ?_
          refine WL.add rfl rfl (by omega) ?_
          refine WL.move rfl ?_
          refine WL.nil ?_
          refine Loop.again _ _ ?_ ?_ ⟨t + 1, vl2, vs2, Mr49, rfl, rfl, hU50, hE51, by rw [rowLets_skip hz]; exact hO53, by rw [rowLets_skip hz]; exact hO54, hsb55, by omega⟩
          · omega
          · exact .cons (t := 2) rfl (.cons (t := 3) rfl (.cons (t := 5) rfl (.cons (t := 7) rfl (.cons (t := 11) rfl (.cons (t := 12) rfl (.cons (t := 13) rfl (.cons (t := 17) rfl (.cons (t := 18) rfl (.cons (t := 19) rfl (.cons (t := 24) rfl (.cons (t := 25) rfl (.nil _))))))))))))
        · have hz : ¬ vietRows[j].sc t = 0 := hc58
          refine CW.skip ?_
          refine CW.seq ?_
          refine CW.region ?_
          refine WL.fieldAddr fo98_0 rfl ?_
          refine WL.load sc3 rfl ((ha48.up hU50).cell 0 _ rfl) ?_
          refine WL.assign rfl ?_
          refine WL.nil ?_
          refine CW.seq ?_
          refine CW.seq ?_
          refine CW.region ?_
          refine WL.move rfl ?_
          refine WL.nil ?_
          refine CW.condB rfl (fun hc59 => ?_) (fun hc59 => ?_)
          · refine CW.region ?_
            refine WL.move rfl ?_
            refine WL.call Try.func23 rfl rfl (.cons rfl .nil) (Upper_spec _ _ hm52 (by omega) (by omega)) (fun v60 w61 hr62 => ?_)
            obtain ⟨rfl, he63⟩ := hr62
            have u64 := Ext.up he63 hm52
            have e65 := Ext.trans hE51 he63
            have hm66 := Up.mb u64
            have hO67 := Own.ext hO53 he63 u64 (fun _ h => h)
            have hO68 := Own.ext hO54 he63 u64 (fun _ h => h)
            have hur69 := @upperI_range (vietRows[j].b) (by omega) (by omega)
            refine WL.move rfl ?_
            refine WL.call Try.func23 rfl rfl (.cons rfl .nil) (Upper_spec _ _ hm66 (by omega) (by omega)) (fun v70 w71 hr72 => ?_)
            obtain ⟨rfl, he73⟩ := hr72
            have u74 := Ext.up he73 hm66
            have e75 := Ext.trans e65 he73
            have hm76 := Up.mb u74
            have hO77 := Own.ext hO67 he73 u74 (fun _ h => h)
            have hO78 := Own.ext hO68 he73 u74 (fun _ h => h)
            have hur79 := @upperI_range (vietRows[j].sc t) (by omega) (by omega)
            refine WL.assign rfl ?_
            refine WL.assign rfl ?_
            refine WL.nil ?_
            refine CW.seq ?_
            refine CW.region ?_
            refine WL.move rfl ?_
            refine WL.move rfl ?_
            refine WL.fieldAddr fo98_1 rfl ?_
            refine WL.load sc3 rfl ((ha48.up (Up.trans hU50 (Up.trans u64 u74))).cell 1 _ rfl) ?_
            refine WL.convF (by rw [Try.underlying3]; rfl) Try.underlying22 rfl ?_
            refine WL.move rfl ?_
            refine WL.convF (by rw [Try.underlying3]; rfl) Try.underlying22 rfl ?_
            refine WL.cplx rfl rfl ?_
            refine WL.buildP (cs := #[.int .i64 (upperI (vietRows[j].b)), .complex .f64 (fb (vietRows[j].m)) (fb (t : Int))]) (.cons rfl (.cons rfl (.nil))) (by kernel_rfl) ?_
            refine WL.bslice1 (R := LtR) (y' := (⟨upperI (vietRows[j].b), fb (vietRows[j].m), fb (t : Int)⟩ : Lt)) Try.underlying38 ti26 rfl (by decide) (by decide) rfl rfl rfl hm76 (fun v80 w81 hS82 he83 => ?_)
            have u84 := Ext.up he83 hm76
            have e85 := Ext.trans e75 he83
            have hm86 := Up.mb u84
            have hO87 := Own.ext hO77 he83 u84 (fun _ h => h)
            have hO88 := Own.ext hO78 he83 u84 (fun _ h => h)
            refine WL.append Try.underlying38 ti26 rfl (by decide) rfl rfl hO87 hS82 (Stp.size e85) hm86 (by decide) (by simp; omega) (fun v89 w90 M91 hO92 hs93 u94 hsub95 hnew96 => ?_)
            have e97 := Ext.stp e85 hs93 (fun k hk => (Own.base hO87 k hk).1)
            have hm98 := Up.mb u94
            have hO99 := Own.step hO88 hs93 (Own.apart hO88 hO87 (by decide)) u94 (fun k hk => hsub95 k (Own.mem hO88 k hk))
            have hsb100 : ∀ k, M k → M91 k := fun k h => hsub95 k (hsb55 k h)
            refine WL.assign rfl ?_
            refine WL.nil ?_
            refine CW.region ?_
            refine WL.move rfl ?_
            refine WL.move rfl ?_
            refine WL.bslice1 (R := IntR) (y' := upperI (vietRows[j].sc t)) Try.underlying29 ti3 rfl (by decide) (by decide) rfl ⟨rfl, by omega⟩ rfl hm98 (fun v101 w102 hS103 he104 => ?_)
            have u105 := Ext.up he104 hm98
            have e106 := Ext.trans e97 he104
            have hm107 := Up.mb u105
            have hO108 := Own.ext hO92 he104 u105 (fun _ h => h)
            have hO109 := Own.ext hO99 he104 u105 (fun _ h => h)
            refine WL.append Try.underlying29 ti3 rfl (by decide) rfl rfl hO109 hS103 (Stp.size e106) hm107 (by decide) (by simp; omega) (fun v110 w111 M112 hO113 hs114 u115 hsub116 hnew117 => ?_)
            have e118 := Ext.stp e106 hs114 (fun k hk => (Own.base hO109 k hk).1)
            have hm119 := Up.mb u115
            have hO120 := Own.step hO108 hs114 (Own.apart hO108 hO109 (by decide)) u115 (fun k hk => hsub116 k (Own.mem hO108 k hk))
            have hsb121 : ∀ k, M k → M112 k := fun k h => hsub116 k (hsb100 k h)
            refine WL.assign rfl ?_
            refine WL.nil ?_
            refine CW.region ?_
            refine WL.add rfl rfl (by omega) ?_
            refine WL.move rfl ?_
            refine WL.nil ?_
            refine Loop.again _ _ ?_ ?_ ⟨t + 1, v89, v110, M112, rfl, rfl, (Up.trans hU50 (Up.trans u64 (Up.trans u74 (Up.trans u84 (Up.trans u94 (Up.trans u105 u115)))))), e118, by rw [rowLets_succ hz, ← List.append_assoc, List.map_append]; simpa [hc59] using hO120, by rw [rowLets_succ hz, ← List.append_assoc, List.map_append]; simpa [hc59] using hO113, hsb121, by omega⟩
            · omega
            · exact .cons (t := 2) rfl (.cons (t := 3) rfl (.cons (t := 5) rfl (.cons (t := 7) rfl (.cons (t := 11) rfl (.cons (t := 12) rfl (.cons (t := 13) rfl (.cons (t := 17) rfl (.cons (t := 18) rfl (.cons (t := 19) rfl (.cons (t := 24) rfl (.cons (t := 25) rfl (.nil _))))))))))))
          · refine CW.skip ?_
            refine CW.seq ?_
            refine CW.region ?_
            refine WL.move rfl ?_
            refine WL.move rfl ?_
            refine WL.fieldAddr fo98_1 rfl ?_
            refine WL.load sc3 rfl ((ha48.up hU50).cell 1 _ rfl) ?_
            refine WL.convF (by rw [Try.underlying3]; rfl) Try.underlying22 rfl ?_
            refine WL.move rfl ?_
            refine WL.convF (by rw [Try.underlying3]; rfl) Try.underlying22 rfl ?_
            refine WL.cplx rfl rfl ?_
            refine WL.buildP (cs := #[.int .i64 (vietRows[j].b), .complex .f64 (fb (vietRows[j].m)) (fb (t : Int))]) (.cons rfl (.cons rfl (.nil))) (by kernel_rfl) ?_
            refine WL.bslice1 (R := LtR) (y' := (⟨vietRows[j].b, fb (vietRows[j].m), fb (t : Int)⟩ : Lt)) Try.underlying38 ti26 rfl (by decide) (by decide) rfl rfl rfl hm52 (fun v122 w123 hS124 he125 => ?_)
            have u126 := Ext.up he125 hm52
            have e127 := Ext.trans hE51 he125
            have hm128 := Up.mb u126
            have hO129 := Own.ext hO53 he125 u126 (fun _ h => h)
            have hO130 := Own.ext hO54 he125 u126 (fun _ h => h)
            refine WL.append Try.underlying38 ti26 rfl (by decide) rfl rfl hO129 hS124 (Stp.size e127) hm128 (by decide) (by simp; omega) (fun v131 w132 M133 hO134 hs135 u136 hsub137 hnew138 => ?_)
            have e139 := Ext.stp e127 hs135 (fun k hk => (Own.base hO129 k hk).1)
            have hm140 := Up.mb u136
            have hO141 := Own.step hO130 hs135 (Own.apart hO130 hO129 (by decide)) u136 (fun k hk => hsub137 k (Own.mem hO130 k hk))
            have hsb142 : ∀ k, M k → M133 k := fun k h => hsub137 k (hsb55 k h)
            refine WL.assign rfl ?_
            refine WL.nil ?_
            refine CW.region ?_
            refine WL.move rfl ?_
            refine WL.move rfl ?_
            refine WL.bslice1 (R := IntR) (y' := vietRows[j].sc t) Try.underlying29 ti3 rfl (by decide) (by decide) rfl ⟨rfl, by omega⟩ rfl hm140 (fun v143 w144 hS145 he146 => ?_)
            have u147 := Ext.up he146 hm140
            have e148 := Ext.trans e139 he146
            have hm149 := Up.mb u147
            have hO150 := Own.ext hO134 he146 u147 (fun _ h => h)
            have hO151 := Own.ext hO141 he146 u147 (fun _ h => h)
            refine WL.append Try.underlying29 ti3 rfl (by decide) rfl rfl hO151 hS145 (Stp.size e148) hm149 (by decide) (by simp; omega) (fun v152 w153 M154 hO155 hs156 u157 hsub158 hnew159 => ?_)
            have e160 := Ext.stp e148 hs156 (fun k hk => (Own.base hO151 k hk).1)
            have hm161 := Up.mb u157
            have hO162 := Own.step hO150 hs156 (Own.apart hO150 hO151 (by decide)) u157 (fun k hk => hsub158 k (Own.mem hO150 k hk))
            have hsb163 : ∀ k, M k → M154 k := fun k h => hsub158 k (hsb142 k h)
            refine WL.assign rfl ?_
            refine WL.nil ?_
            refine CW.region ?_
            refine WL.add rfl rfl (by omega) ?_
            refine WL.move rfl ?_
            refine WL.nil ?_
            refine Loop.again _ _ ?_ ?_ ⟨t + 1, v131, v152, M154, rfl, rfl, (Up.trans hU50 (Up.trans u126 (Up.trans u136 (Up.trans u147 u157)))), e160, by rw [rowLets_succ hz, ← List.append_assoc, List.map_append]; simpa [hc59] using hO162, by rw [rowLets_succ hz, ← List.append_assoc, List.map_append]; simpa [hc59] using hO155, hsb163, by omega⟩
            · omega
            · exact .cons (t := 2) rfl (.cons (t := 3) rfl (.cons (t := 5) rfl (.cons (t := 7) rfl (.cons (t := 11) rfl (.cons (t := 12) rfl (.cons (t := 13) rfl (.cons (t := 17) rfl (.cons (t := 18) rfl (.cons (t := 19) rfl (.cons (t := 24) rfl (.cons (t := 25) rfl (.nil _))))))))))))
      · refine CW.exit ?_
        refine CW.region ?_
        refine WL.add rfl rfl (by omega) ?_
        refine WL.move rfl ?_
        refine WL.nil ?_
        have ht6 : t = 6 := by omega
        subst ht6
        refine Loop.again _ _ ?_ ?_ ⟨j + 1, vl2, vs2, Mr49, rfl, rfl, (Up.trans hU19 (Up.trans u43 hU50)), hE51, by rw [rowsLets_succ _ hj2, ← List.append_assoc]; exact hO53, by rw [rowsLets_succ _ hj2, ← List.append_assoc]; exact hO54, hsb55, by omega⟩
        · omega
        · exact .cons (t := 2) rfl (.cons (t := 3) rfl (.cons (t := 5) rfl (.cons (t := 11) rfl (.cons (t := 12) rfl (.cons (t := 13) rfl (.cons (t := 17) rfl (.cons (t := 18) rfl (.cons (t := 19) rfl (.nil _)))))))))
    · refine CW.exit ?_
      refine CW.region ?_
      refine WL.add rfl rfl (by omega) ?_
      refine WL.move rfl ?_
      refine WL.nil ?_
      have hj14 : j = 14 := by omega
      subst hj14
      refine Loop.again _ _ ?_ ?_ ⟨i + 1, vl1, vs1, Mr18, rfl, rfl, (Up.trans hU5 (Up.trans u13 hU19)), hE20, by rw [upsLets_succ hi2]; exact hO22, by rw [upsLets_succ hi2]; exact hO23, hsb24, by omega⟩
      · omega
      · exact .cons (t := 2) rfl (.cons (t := 3) rfl (.cons (t := 11) rfl (.cons (t := 12) rfl (.cons (t := 13) rfl (.nil _)))))
  · refine CW.exit ?_
    refine CW.seq ?_
    refine CW.region ?_
    refine WL.move rfl ?_
    refine WL.move rfl ?_
    refine WL.assign rfl ?_
    refine WL.assign rfl ?_
    refine WL.nil ?_
    refine CW.ret ?_
    refine Ret.two rfl rfl rfl ?_
    have hi3 : i = 2 := by omega
    subst hi3
    exact ⟨_, _, rfl, Own.read0 hO8 hm7 hsb10 hm, Own.read0 hO9 hm7 hsb10 hm, hE6⟩
end Go.Proofs.Ytgbajkdomcmblaa
