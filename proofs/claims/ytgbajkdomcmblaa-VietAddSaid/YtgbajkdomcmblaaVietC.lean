/- What the laws of Vietnamese come to: walks. -/
import Derived.Test.YtgbajkdomcmblaaVietB
namespace Go.Proofs.Ytgbajkdomcmblaa
open Go Go.RowKit Vc
set_option linter.unusedVariables false
set_option linter.unusedSimpArgs false
attribute [local irreducible] vietAll
private theorem fo26_0 : fieldOff Try.prog 26 0 = some 0 := by kernel_rfl
private theorem fo26_1 : fieldOff Try.prog 26 1 = some 1 := by kernel_rfl
private theorem es29 : elemSize Try.prog 29 = some 1 := by kernel_rfl
private theorem es30 : elemSize Try.prog 30 = some 1 := by kernel_rfl
private theorem es38 : elemSize Try.prog 38 = some 2 := by kernel_rfl
private theorem sc3 : scalar Try.prog 3 = true := by kernel_rfl
private theorem sc24 : scalar Try.prog 24 = true := by kernel_rfl
private theorem ag26 : aggSize Try.prog 26 = some 2 := by kernel_rfl
private theorem ti24 : tinfo Try.prog 24 = some (some (.complex .f64 0 0), 1, 16) := by kernel_rfl
private theorem ti26 : tinfo Try.prog 26 = some (some (.agg #[.int .i64 0, .complex .f64 0 0]), 2, 24) := by kernel_rfl
theorem AddR_parts {t : Lt} {x y : Nat} {v : Value} (h : AddR t x y v) : ∃ g is, v = .tuple #[.agg #[.int .i64 g.b, .complex .f64 g.re g.im], .bool is] ∧ (clash t x y = true → is = false ∧ g = t) ∧
    (clash t x y = false → ∃ r s, FAdd t.re x r ∧ FAdd t.im y s ∧ is = J t.b r s ∧ g = if is = true then ⟨t.b, r, s⟩ else t) := by
  unfold AddR at h
  split at h
  · rename_i hc
    exact ⟨t, false, h, fun _ => ⟨rfl, rfl⟩, fun hn => by rw [hc] at hn; cases hn⟩
  · rename_i hc
    obtain ⟨r, s, h1, h2, rfl⟩ := h
    cases hj : J t.b r s with
    | true => exact ⟨⟨t.b, r, s⟩, true, by simp, fun hn => absurd hn hc, fun _ => ⟨r, s, h1, h2, hj.symm, by simp⟩⟩
    | false => exact ⟨t, false, by simp [Lt.cells], fun hn => absurd hn hc, fun _ => ⟨r, s, h1, h2, hj.symm, by simp⟩⟩

theorem VietUpper_walk (w : World) (M : MS) (hm : MB w M) {x : Nat} (hx : x ≤ 255) :
    Fc Try.prog 4 #[.int .u8 (x : Int)] w fun v w' => v = .bool true ∧ Ext w w' := by
  have e0 := Stp.refl w (fun _ => False)
  have hvl := vietAll_len
  obtain ⟨b1, b2, b3, b4, _⟩ := viet_ok (show ((x : Int) % 74).toNat < vietAll.length by omega)
  obtain ⟨f1, f2, f3⟩ := viet_upper (show ((x : Int) % 74).toNat < vietAll.length by omega) (show 74 + ((x : Int) % 74).toNat < vietAll.length by omega)
  have hix : (74 + (x : Int) % 74).toNat = 74 + ((x : Int) % 74).toNat := by omega
  simp only [← hix] at f1 f2 f3
  refine Fc.enter (n := 60) [(0, .int .u8 (x : Int))] Try.func4 rfl rfl (Nat.le_of_ble_eq_true rfl) (.cons rfl (.nil _)) ?_
  refine CW.seq ?_
  refine CW.region ?_
  refine WL.assign rfl ?_
  refine WL.nil ?_
  refine CW.seq ?_
  refine CW.seq ?_
  refine CW.region ?_
  refine WL.call Try.func17 rfl rfl .nil (awake_spec _ _ hm) (fun _ w1 hr2 => ?_)
  obtain ⟨rfl, he3⟩ := hr2
  have u4 := Ext.up he3 hm
  have e5 := Ext.trans e0 he3
  have hm6 := Up.mb u4
  refine WL.not_ rfl ?_
  refine WL.nil ?_
  refine CW.condF rfl ?_
  refine CW.skip ?_
  refine CW.seq ?_
  refine CW.region ?_
  refine WL.call Try.func22 rfl rfl .nil (All_spec _ _ hm6) (fun _ w15 hr16 => ?_)
  obtain ⟨_, _, rfl, h1, h2, he17⟩ := hr16
  obtain ⟨A9, c10, rfl, hL13⟩ := Sl.map h1
  obtain ⟨A11, c12, rfl, hC14⟩ := Sl.map h2
  have u18 := Ext.up he17 hm6
  have e19 := Ext.trans e5 he17
  have hm20 := Up.mb u18
  refine WL.move rfl ?_
  refine WL.extract rfl rfl ?_
  refine WL.extract rfl rfl ?_
  refine WL.assign rfl ?_
  refine WL.assign rfl ?_
  refine WL.nil ?_
  refine CW.seq ?_
  refine CW.seq ?_
  refine CW.region ?_
  refine WL.move rfl ?_
  refine WL.len Try.underlying38 rfl ?_
  refine WL.neq rfl rfl ?_
  refine WL.move rfl ?_
  have hev21 : ¬ ((vietAll.length : Int) ≠ 148) := by omega
  refine WL.gtake rfl rfl (decide_eq_false hev21) ?_
  refine WL.move rfl ?_
  refine WL.gtake rfl rfl (decide_eq_false hev21) ?_
  refine WL.len Try.underlying29 rfl ?_
  refine WL.gtake rfl rfl (decide_eq_false hev21) ?_
  refine WL.neq rfl rfl ?_
  refine WL.pickF (congrArg (fun b => some (Value.bool b)) (decide_eq_false hev21)) rfl ?_
  refine WL.nil ?_
  refine CW.condP rfl (fun hn => absurd hn hev21) (fun _ => ?_)
  refine CW.skip ?_
  refine CW.seq ?_
  refine CW.drawn [] (fun w1 w' => Ext w1 w') mixed (fun w22 ed23 hh24 => ?_)
  have u25 := Ext.up ed23 hm20
  have e26 := Ext.trans e19 ed23
  have hm27 := Up.mb u25
  refine DW.t 0 rfl (by kernel_rfl) (fun _ _ _ h => h) (fun w' hC => Rn.move rfl) ?_
  refine DW.t 1 rfl (by kernel_rfl) (fun _ _ _ h => h) (fun w' hC => Rn.move rfl) ?_
  refine DW.t 2 rfl (by kernel_rfl) (fun _ _ _ h => h) (fun w' hC => Rn.rem rfl rfl (by omega) (by omega)) ?_
  have hlt28 : ((x : Int) % 74).toNat < vietAll.length := by omega
  obtain ⟨ad29, cs30, hA31, hs32, hat33, hR34⟩ := SlD.get (hL13.up u25) (List.getElem?_eq_getElem hlt28)
  rw [show _ = _ from hR34] at hat33
  refine DW.t 3 rfl (by kernel_rfl) (fun _ _ _ h => h) (fun w' hC => Rn.idx es38 rfl rfl hA31 (by omega) (by omega)) ?_
  refine DW.t 4 rfl (by kernel_rfl) (fun _ _ _ h => h) (fun w' hC => Rn.loadAgg (cs := [.int .i64 (vietAll[((x : Int) % 74).toNat].1.b), .complex .f64 (vietAll[((x : Int) % 74).toNat].1.re) (vietAll[((x : Int) % 74).toNat].1.im)]) ag26 rfl (hat33.up (Ext.up hC hm27))) ?_
  refine DW.t 5 rfl (by kernel_rfl) (fun _ _ _ h => h) (fun w' hC => Rn.move rfl) ?_
  refine DW.t 6 rfl (by kernel_rfl) (fun _ _ _ h => h) (fun w' hC => Rn.move rfl) ?_
  refine DW.t 7 rfl (by kernel_rfl) (fun _ _ _ h => h) (fun w' hC => Rn.rem rfl rfl (by omega) (by omega)) ?_
  refine DW.t 8 rfl (by kernel_rfl) (fun _ _ _ h => h) (fun w' hC => Rn.addk rfl rfl (wrapU8 (by omega) (by omega))) ?_
  have hlt35 : (74 + ((x : Int) % 74)).toNat < vietAll.length := by omega
  obtain ⟨ad36, cs37, hA38, hs39, hat40, hR41⟩ := SlD.get (hL13.up u25) (List.getElem?_eq_getElem hlt35)
  rw [show _ = _ from hR41] at hat40
  refine DW.t 9 rfl (by kernel_rfl) (fun _ _ _ h => h) (fun w' hC => Rn.idx es38 rfl rfl hA38 (by omega) (by omega)) ?_
  refine DW.t 10 rfl (by kernel_rfl) (fun _ _ _ h => h) (fun w' hC => Rn.loadAgg (cs := [.int .i64 (vietAll[(74 + ((x : Int) % 74)).toNat].1.b), .complex .f64 (vietAll[(74 + ((x : Int) % 74)).toNat].1.re) (vietAll[(74 + ((x : Int) % 74)).toNat].1.im)]) ag26 rfl (hat40.up (Ext.up hC hm27))) ?_
  refine DW.two 11 12 (by kernel_rfl) rfl rfl (fun _ => Stp.refl _ _) ?_ ?_
  · refine WL.alloc (cs := [.int .i64 0, .complex .f64 0 0]) ti26 rfl (fun g42 w43 hg44 hb45 he46 => ?_)
    have u47 := Ext.up he46 hm27
    have e48 := Ext.trans e26 he46
    have hm49 := Up.mb u47
    refine WL.nil ?_
    refine DW.only 12 (by kernel_rfl) rfl (fun _ => he46) ?_
    refine WL.alloc (cs := [.int .i64 0, .complex .f64 0 0]) ti26 rfl (fun g50 w51 hg52 hb53 he54 => ?_)
    have ne55 : g42 ≠ g50 := by have h1 := Bk.lt hb45; have h2 := hg52; omega
    have u56 := Ext.up he54 hm49
    have e57 := Ext.trans e48 he54
    have hm58 := Up.mb u56
    refine WL.nil ?_
    refine DW.only 13 (by kernel_rfl) rfl (fun _ => (Ext.trans he46 he54)) ?_
    have hb62 := hb53
    have hb63 := (Bk.ext hb45 he54)
    refine WL.storeAll (vs := [.int .i64 (vietAll[((x : Int) % 74).toNat].1.b), .complex .f64 (vietAll[((x : Int) % 74).toNat].1.re) (vietAll[((x : Int) % 74).toNat].1.im)]) (by rw [ti26]; rfl) rfl rfl (by simp [Value.oneCell']) hb63 rfl (fun w59 hb60 hs61 => ?_)
    have he64 : Ext w22 w59 := Stp.trans (Ext.trans he46 he54) hs61 (fun k hk => .inr (by rw [hk]; exact hg44))
    have hb65 := Bk.stp hb62 hs61 (Ne.symm ne55)
    have hg66 : w22.heap.size ≤ g50 := by have h1 := hg52; have h9 := Stp.size he46; omega
    have hn67 := MB.fresh hm27 hg44
    have u68 := Ext.up he64 hm27
    have e69 := Ext.trans e26 he64
    have hm70 := Up.mb u68
    have ha71 := Bk.at_ hb60 hn67
    refine WL.nil ?_
    refine DW.only 14 (by kernel_rfl) rfl (fun _ => he64) ?_
    have hb75 := hb60
    have hb76 := hb65
    refine WL.storeAll (vs := [.int .i64 (vietAll[(74 + ((x : Int) % 74)).toNat].1.b), .complex .f64 (vietAll[(74 + ((x : Int) % 74)).toNat].1.re) (vietAll[(74 + ((x : Int) % 74)).toNat].1.im)]) (by rw [ti26]; rfl) rfl rfl (by simp [Value.oneCell']) hb76 rfl (fun w72 hb73 hs74 => ?_)
    have he77 : Ext w22 w72 := Stp.trans he64 hs74 (fun k hk => .inr (by rw [hk]; exact hg66))
    have hb78 := Bk.stp hb75 hs74 ne55
    have hg79 : w22.heap.size ≤ g42 := by have h1 := hg44; omega
    have hn80 := MB.fresh hm27 hg66
    have u81 := Ext.up he77 hm27
    have e82 := Ext.trans e26 he77
    have hm83 := Up.mb u81
    have ha84 := Bk.at_ hb78 (MB.fresh hm27 hg79)
    have ha85 := Bk.at_ hb73 hn80
    refine WL.nil ?_
    refine DW.done (by kernel_rfl) (fun _ => he77) ?_
    refine CW.seq ?_
    refine CW.drawn [] (fun w1 w' => Ext w1 w') mixed (fun w86 ed87 hh88 => ?_)
    have u89 := Ext.up ed87 hm83
    have e90 := Ext.trans e82 ed87
    have hm91 := Up.mb u89
    refine DW.t 0 rfl (by kernel_rfl) (fun _ _ _ h => h) (fun w' hC => Rn.fieldAddr fo26_0 rfl) ?_
    refine DW.t 1 rfl (by kernel_rfl) (fun _ _ _ h => h) (fun w' hC => Rn.load sc3 rfl ((ha84.up (Up.trans u89 (Ext.up hC hm91))).cell 0 _ rfl)) ?_
    refine DW.t 3 rfl (by kernel_rfl) (fun _ _ _ h => h) (fun w' hC => Rn.fieldAddr fo26_0 rfl) ?_
    refine DW.t 4 rfl (by kernel_rfl) (fun _ _ _ h => h) (fun w' hC => Rn.load sc3 rfl ((ha85.up (Up.trans u89 (Ext.up hC hm91))).cell 0 _ rfl)) ?_
    refine DW.only 2 (by kernel_rfl) rfl (fun _ => Stp.refl _ _) ?_
    refine WL.call Try.func23 rfl rfl (.cons rfl .nil) (Upper_spec _ _ hm91 (by omega) (by omega)) (fun _ w92 hr93 => ?_)
    obtain ⟨rfl, he94⟩ := hr93
    have u95 := Ext.up he94 hm91
    have e96 := Ext.trans e90 he94
    have hm97 := Up.mb u95
    refine WL.nil ?_
    refine DW.t 5 rfl (by kernel_rfl) (fun _ _ _ h => h) (fun w' hC => Rn.eql rfl rfl) ?_
    refine DW.t 6 rfl (by kernel_rfl) (fun _ _ _ h => h) (fun w' hC => Rn.move rfl) ?_
    by_cases hg98 : upperI (vietAll[((x : Int) % 74).toNat].1.b) = vietAll[(74 + ((x : Int) % 74)).toNat].1.b
    · refine DW.tg 7 rfl (by kernel_rfl) (fun _ _ _ h => h) rfl rfl (decide_eq_true hg98) (fun w' hC => Rn.fieldAddr fo26_1 rfl) ?_
      refine DW.tg 8 rfl (by kernel_rfl) (fun _ _ _ h => h) rfl rfl (decide_eq_true hg98) (fun w' hC => Rn.load sc24 rfl ((ha84.up (Up.trans u89 (Ext.up hC hm91))).cell 1 _ rfl)) ?_
      refine DW.tg 9 rfl (by kernel_rfl) (fun _ _ _ h => h) rfl rfl (decide_eq_true hg98) (fun w' hC => Rn.fieldAddr fo26_1 rfl) ?_
      refine DW.tg 10 rfl (by kernel_rfl) (fun _ _ _ h => h) rfl rfl (decide_eq_true hg98) (fun w' hC => Rn.load sc24 rfl ((ha85.up (Up.trans u89 (Ext.up hC hm91))).cell 1 _ rfl)) ?_
      refine DW.tg 11 rfl (by kernel_rfl) (fun _ _ _ h => h) rfl rfl (decide_eq_true hg98) (fun w' hC => Rn.ceq rfl rfl) ?_
      refine DW.t 12 rfl (by kernel_rfl) (fun _ _ _ h => h) (fun w' hC => Rn.pickT (congrArg (fun b => some (Value.bool b)) (decide_eq_true hg98)) rfl) ?_
      refine DW.t 13 rfl (by kernel_rfl) (fun _ _ _ h => h) (fun w' hC => Rn.move rfl) ?_
      cases hg99 : fe (vietAll[((x : Int) % 74).toNat].1.re) (vietAll[(74 + ((x : Int) % 74)).toNat].1.re) && fe (vietAll[((x : Int) % 74).toNat].1.im) (vietAll[(74 + ((x : Int) % 74)).toNat].1.im)
      · refine DW.sg 14 rfl (by kernel_rfl) (fun _ _ _ h => h) rfl rfl rfl ?_
        refine DW.sg 15 rfl (by kernel_rfl) (fun _ _ _ h => h) rfl rfl rfl ?_
        refine DW.sg 16 rfl (by kernel_rfl) (fun _ _ _ h => h) rfl rfl rfl ?_
        refine DW.sg 17 rfl (by kernel_rfl) (fun _ _ _ h => h) rfl rfl rfl ?_
        refine DW.sg 18 rfl (by kernel_rfl) (fun _ _ _ h => h) rfl rfl rfl ?_
        refine DW.sg 19 rfl (by kernel_rfl) (fun _ _ _ h => h) rfl rfl rfl ?_
        refine DW.sg 20 rfl (by kernel_rfl) (fun _ _ _ h => h) rfl rfl rfl ?_
        refine DW.sg 21 rfl (by kernel_rfl) (fun _ _ _ h => h) rfl rfl rfl ?_
        refine DW.sg 22 rfl (by kernel_rfl) (fun _ _ _ h => h) rfl rfl rfl ?_
        refine DW.sg 23 rfl (by kernel_rfl) (fun _ _ _ h => h) rfl rfl rfl ?_
        refine DW.sg 24 rfl (by kernel_rfl) (fun _ _ _ h => h) rfl rfl rfl ?_
        refine DW.sg 25 rfl (by kernel_rfl) (fun _ _ _ h => h) rfl rfl rfl ?_
        refine DW.sg 26 rfl (by kernel_rfl) (fun _ _ _ h => h) rfl rfl rfl ?_
        refine DW.t 27 rfl (by kernel_rfl) (fun _ _ _ h => h) (fun w' hC => Rn.pickF rfl rfl) ?_
        refine DW.t 28 rfl (by kernel_rfl) (fun _ _ _ h => h) (fun w' hC => Rn.assign rfl) ?_
        refine DW.done (by kernel_rfl) (fun _ => he94) ?_
        refine CW.ret ?_
        refine Ret.one rfl rfl ?_
        refine ⟨?_, e96⟩
        simp_all
      · refine DW.tg 14 rfl (by kernel_rfl) (fun _ _ _ h => h) rfl rfl rfl (fun w' hC => Rn.move rfl) ?_
        refine DW.tg 15 rfl (by kernel_rfl) (fun _ _ _ h => h) rfl rfl rfl (fun w' hC => Rn.move rfl) ?_
        refine DW.tg 16 rfl (by kernel_rfl) (fun _ _ _ h => h) rfl rfl rfl (fun w' hC => Rn.rem rfl rfl (by omega) (by omega)) ?_
        have hlt100 : ((x : Int) % 74).toNat < vietAll.length := by omega
        obtain ⟨ad101, cs102, hA103, hs104, hat105, hR106⟩ := SlD.get (hC14.up (Up.trans u25 (Up.trans u81 u89))) (List.getElem?_eq_getElem hlt100)
        rw [show _ = _ from hR106.1] at hat105
        have hhR106 := hR106.2; simp only [I64] at hhR106
        refine DW.tg 17 rfl (by kernel_rfl) (fun _ _ _ h => h) rfl rfl rfl (fun w' hC => Rn.idx es29 rfl rfl hA103 (by omega) (by omega)) ?_
        refine DW.tg 18 rfl (by kernel_rfl) (fun _ _ _ h => h) rfl rfl rfl (fun w' hC => Rn.load sc3 rfl ((hat105.up (Ext.up hC hm91)).cell 0 _ rfl)) ?_
        refine DW.tg 20 rfl (by kernel_rfl) (fun _ _ _ h => h) rfl rfl rfl (fun w' hC => Rn.move rfl) ?_
        refine DW.tg 21 rfl (by kernel_rfl) (fun _ _ _ h => h) rfl rfl rfl (fun w' hC => Rn.move rfl) ?_
        refine DW.tg 22 rfl (by kernel_rfl) (fun _ _ _ h => h) rfl rfl rfl (fun w' hC => Rn.rem rfl rfl (by omega) (by omega)) ?_
        refine DW.tg 23 rfl (by kernel_rfl) (fun _ _ _ h => h) rfl rfl rfl (fun w' hC => Rn.addk rfl rfl (wrapU8 (by omega) (by omega))) ?_
        have hlt107 : (74 + ((x : Int) % 74)).toNat < vietAll.length := by omega
        obtain ⟨ad108, cs109, hA110, hs111, hat112, hR113⟩ := SlD.get (hC14.up (Up.trans u25 (Up.trans u81 u89))) (List.getElem?_eq_getElem hlt107)
        rw [show _ = _ from hR113.1] at hat112
        have hhR113 := hR113.2; simp only [I64] at hhR113
        refine DW.tg 24 rfl (by kernel_rfl) (fun _ _ _ h => h) rfl rfl rfl (fun w' hC => Rn.idx es29 rfl rfl hA110 (by omega) (by omega)) ?_
        refine DW.tg 25 rfl (by kernel_rfl) (fun _ _ _ h => h) rfl rfl rfl (fun w' hC => Rn.load sc3 rfl ((hat112.up (Ext.up hC hm91)).cell 0 _ rfl)) ?_
        refine DW.only 19 (by kernel_rfl) rfl (fun _ => he94) ?_
        refine WL.gtake rfl rfl rfl ?_
        refine WL.call Try.func23 rfl rfl (.cons rfl .nil) (Upper_spec _ _ hm97 (by omega) (by omega)) (fun _ w114 hr115 => ?_)
        obtain ⟨rfl, he116⟩ := hr115
        have u117 := Ext.up he116 hm97
        have e118 := Ext.trans e96 he116
        have hm119 := Up.mb u117
        refine WL.nil ?_
        refine DW.tg 26 rfl (by kernel_rfl) (fun _ _ _ h => h) rfl rfl rfl (fun w' hC => Rn.eql rfl rfl) ?_
        refine DW.t 27 rfl (by kernel_rfl) (fun _ _ _ h => h) (fun w' hC => Rn.pickT rfl rfl) ?_
        refine DW.t 28 rfl (by kernel_rfl) (fun _ _ _ h => h) (fun w' hC => Rn.assign rfl) ?_
        refine DW.done (by kernel_rfl) (fun _ => (Ext.trans he94 he116)) ?_
        refine CW.ret ?_
        refine Ret.one rfl rfl ?_
        refine ⟨?_, e118⟩
        simp_all
    · refine DW.sg 7 rfl (by kernel_rfl) (fun _ _ _ h => h) rfl rfl (decide_eq_false hg98) ?_
      refine DW.sg 8 rfl (by kernel_rfl) (fun _ _ _ h => h) rfl rfl (decide_eq_false hg98) ?_
      refine DW.sg 9 rfl (by kernel_rfl) (fun _ _ _ h => h) rfl rfl (decide_eq_false hg98) ?_
      refine DW.sg 10 rfl (by kernel_rfl) (fun _ _ _ h => h) rfl rfl (decide_eq_false hg98) ?_
      refine DW.sg 11 rfl (by kernel_rfl) (fun _ _ _ h => h) rfl rfl (decide_eq_false hg98) ?_
      refine DW.t 12 rfl (by kernel_rfl) (fun _ _ _ h => h) (fun w' hC => Rn.pickF (congrArg (fun b => some (Value.bool b)) (decide_eq_false hg98)) rfl) ?_
      refine DW.t 13 rfl (by kernel_rfl) (fun _ _ _ h => h) (fun w' hC => Rn.move rfl) ?_
      refine DW.sg 14 rfl (by kernel_rfl) (fun _ _ _ h => h) rfl rfl rfl ?_
      refine DW.sg 15 rfl (by kernel_rfl) (fun _ _ _ h => h) rfl rfl rfl ?_
      refine DW.sg 16 rfl (by kernel_rfl) (fun _ _ _ h => h) rfl rfl rfl ?_
      refine DW.sg 17 rfl (by kernel_rfl) (fun _ _ _ h => h) rfl rfl rfl ?_
      refine DW.sg 18 rfl (by kernel_rfl) (fun _ _ _ h => h) rfl rfl rfl ?_
      refine DW.sg 19 rfl (by kernel_rfl) (fun _ _ _ h => h) rfl rfl rfl ?_
      refine DW.sg 20 rfl (by kernel_rfl) (fun _ _ _ h => h) rfl rfl rfl ?_
      refine DW.sg 21 rfl (by kernel_rfl) (fun _ _ _ h => h) rfl rfl rfl ?_
      refine DW.sg 22 rfl (by kernel_rfl) (fun _ _ _ h => h) rfl rfl rfl ?_
      refine DW.sg 23 rfl (by kernel_rfl) (fun _ _ _ h => h) rfl rfl rfl ?_
      refine DW.sg 24 rfl (by kernel_rfl) (fun _ _ _ h => h) rfl rfl rfl ?_
      refine DW.sg 25 rfl (by kernel_rfl) (fun _ _ _ h => h) rfl rfl rfl ?_
      refine DW.sg 26 rfl (by kernel_rfl) (fun _ _ _ h => h) rfl rfl rfl ?_
      refine DW.t 27 rfl (by kernel_rfl) (fun _ _ _ h => h) (fun w' hC => Rn.pickF rfl rfl) ?_
      refine DW.t 28 rfl (by kernel_rfl) (fun _ _ _ h => h) (fun w' hC => Rn.assign rfl) ?_
      refine DW.done (by kernel_rfl) (fun _ => he94) ?_
      refine CW.ret ?_
      refine Ret.one rfl rfl ?_
      refine ⟨?_, e96⟩
      simp_all
  · refine WL.alloc (cs := [.int .i64 0, .complex .f64 0 0]) ti26 rfl (fun g120 w121 hg122 hb123 he124 => ?_)
    have u125 := Ext.up he124 hm27
    have e126 := Ext.trans e26 he124
    have hm127 := Up.mb u125
    refine WL.nil ?_
    refine DW.only 11 (by kernel_rfl) rfl (fun _ => he124) ?_
    refine WL.alloc (cs := [.int .i64 0, .complex .f64 0 0]) ti26 rfl (fun g128 w129 hg130 hb131 he132 => ?_)
    have ne133 : g120 ≠ g128 := by have h1 := Bk.lt hb123; have h2 := hg130; omega
    have u134 := Ext.up he132 hm127
    have e135 := Ext.trans e126 he132
    have hm136 := Up.mb u134
    refine WL.nil ?_
    refine DW.only 13 (by kernel_rfl) rfl (fun _ => (Ext.trans he124 he132)) ?_
    have hb140 := hb131
    refine WL.storeAll (vs := [.int .i64 (vietAll[((x : Int) % 74).toNat].1.b), .complex .f64 (vietAll[((x : Int) % 74).toNat].1.re) (vietAll[((x : Int) % 74).toNat].1.im)]) (by rw [ti26]; rfl) rfl rfl (by simp [Value.oneCell']) hb140 rfl (fun w137 hb138 hs139 => ?_)
    have he141 : Ext w121 w137 := Stp.trans he132 hs139 (fun k hk => .inr (by rw [hk]; exact hg130))
    have hn142 := MB.fresh hm127 hg130
    have u143 := Ext.up he141 hm127
    have e144 := Ext.trans e126 he141
    have hm145 := Up.mb u143
    have ha146 := Bk.at_ hb138 hn142
    refine WL.nil ?_
    refine DW.only 14 (by kernel_rfl) rfl (fun _ => (Ext.trans he124 he141)) ?_
    have hb150 := hb138
    have hb151 := (Bk.ext hb123 he141)
    refine WL.storeAll (vs := [.int .i64 (vietAll[(74 + ((x : Int) % 74)).toNat].1.b), .complex .f64 (vietAll[(74 + ((x : Int) % 74)).toNat].1.re) (vietAll[(74 + ((x : Int) % 74)).toNat].1.im)]) (by rw [ti26]; rfl) rfl rfl (by simp [Value.oneCell']) hb151 rfl (fun w147 hb148 hs149 => ?_)
    have he152 : Ext w22 w147 := Stp.trans (Ext.trans he124 he141) hs149 (fun k hk => .inr (by rw [hk]; exact hg122))
    have hb153 := Bk.stp hb150 hs149 (Ne.symm ne133)
    have hg154 : w22.heap.size ≤ g128 := by have h1 := hg130; have h9 := Stp.size he124; omega
    have hn155 := MB.fresh hm27 hg122
    have u156 := Ext.up he152 hm27
    have e157 := Ext.trans e26 he152
    have hm158 := Up.mb u156
    have ha159 := Bk.at_ hb153 (MB.fresh hm27 hg154)
    have ha160 := Bk.at_ hb148 hn155
    refine WL.nil ?_
    refine DW.done (by kernel_rfl) (fun _ => he152) ?_
    refine CW.seq ?_
    refine CW.drawn [] (fun w1 w' => Ext w1 w') mixed (fun w161 ed162 hh163 => ?_)
    have u164 := Ext.up ed162 hm158
    have e165 := Ext.trans e157 ed162
    have hm166 := Up.mb u164
    refine DW.t 0 rfl (by kernel_rfl) (fun _ _ _ h => h) (fun w' hC => Rn.fieldAddr fo26_0 rfl) ?_
    refine DW.t 1 rfl (by kernel_rfl) (fun _ _ _ h => h) (fun w' hC => Rn.load sc3 rfl ((ha159.up (Up.trans u164 (Ext.up hC hm166))).cell 0 _ rfl)) ?_
    refine DW.t 3 rfl (by kernel_rfl) (fun _ _ _ h => h) (fun w' hC => Rn.fieldAddr fo26_0 rfl) ?_
    refine DW.t 4 rfl (by kernel_rfl) (fun _ _ _ h => h) (fun w' hC => Rn.load sc3 rfl ((ha160.up (Up.trans u164 (Ext.up hC hm166))).cell 0 _ rfl)) ?_
    refine DW.only 2 (by kernel_rfl) rfl (fun _ => Stp.refl _ _) ?_
    refine WL.call Try.func23 rfl rfl (.cons rfl .nil) (Upper_spec _ _ hm166 (by omega) (by omega)) (fun _ w167 hr168 => ?_)
    obtain ⟨rfl, he169⟩ := hr168
    have u170 := Ext.up he169 hm166
    have e171 := Ext.trans e165 he169
    have hm172 := Up.mb u170
    refine WL.nil ?_
    refine DW.t 5 rfl (by kernel_rfl) (fun _ _ _ h => h) (fun w' hC => Rn.eql rfl rfl) ?_
    refine DW.t 6 rfl (by kernel_rfl) (fun _ _ _ h => h) (fun w' hC => Rn.move rfl) ?_
    by_cases hg173 : upperI (vietAll[((x : Int) % 74).toNat].1.b) = vietAll[(74 + ((x : Int) % 74)).toNat].1.b
    · refine DW.tg 7 rfl (by kernel_rfl) (fun _ _ _ h => h) rfl rfl (decide_eq_true hg173) (fun w' hC => Rn.fieldAddr fo26_1 rfl) ?_
      refine DW.tg 8 rfl (by kernel_rfl) (fun _ _ _ h => h) rfl rfl (decide_eq_true hg173) (fun w' hC => Rn.load sc24 rfl ((ha159.up (Up.trans u164 (Ext.up hC hm166))).cell 1 _ rfl)) ?_
      refine DW.tg 9 rfl (by kernel_rfl) (fun _ _ _ h => h) rfl rfl (decide_eq_true hg173) (fun w' hC => Rn.fieldAddr fo26_1 rfl) ?_
      refine DW.tg 10 rfl (by kernel_rfl) (fun _ _ _ h => h) rfl rfl (decide_eq_true hg173) (fun w' hC => Rn.load sc24 rfl ((ha160.up (Up.trans u164 (Ext.up hC hm166))).cell 1 _ rfl)) ?_
      refine DW.tg 11 rfl (by kernel_rfl) (fun _ _ _ h => h) rfl rfl (decide_eq_true hg173) (fun w' hC => Rn.ceq rfl rfl) ?_
      refine DW.t 12 rfl (by kernel_rfl) (fun _ _ _ h => h) (fun w' hC => Rn.pickT (congrArg (fun b => some (Value.bool b)) (decide_eq_true hg173)) rfl) ?_
      refine DW.t 13 rfl (by kernel_rfl) (fun _ _ _ h => h) (fun w' hC => Rn.move rfl) ?_
      cases hg174 : fe (vietAll[((x : Int) % 74).toNat].1.re) (vietAll[(74 + ((x : Int) % 74)).toNat].1.re) && fe (vietAll[((x : Int) % 74).toNat].1.im) (vietAll[(74 + ((x : Int) % 74)).toNat].1.im)
      · refine DW.sg 14 rfl (by kernel_rfl) (fun _ _ _ h => h) rfl rfl rfl ?_
        refine DW.sg 15 rfl (by kernel_rfl) (fun _ _ _ h => h) rfl rfl rfl ?_
        refine DW.sg 16 rfl (by kernel_rfl) (fun _ _ _ h => h) rfl rfl rfl ?_
        refine DW.sg 17 rfl (by kernel_rfl) (fun _ _ _ h => h) rfl rfl rfl ?_
        refine DW.sg 18 rfl (by kernel_rfl) (fun _ _ _ h => h) rfl rfl rfl ?_
        refine DW.sg 19 rfl (by kernel_rfl) (fun _ _ _ h => h) rfl rfl rfl ?_
        refine DW.sg 20 rfl (by kernel_rfl) (fun _ _ _ h => h) rfl rfl rfl ?_
        refine DW.sg 21 rfl (by kernel_rfl) (fun _ _ _ h => h) rfl rfl rfl ?_
        refine DW.sg 22 rfl (by kernel_rfl) (fun _ _ _ h => h) rfl rfl rfl ?_
        refine DW.sg 23 rfl (by kernel_rfl) (fun _ _ _ h => h) rfl rfl rfl ?_
        refine DW.sg 24 rfl (by kernel_rfl) (fun _ _ _ h => h) rfl rfl rfl ?_
        refine DW.sg 25 rfl (by kernel_rfl) (fun _ _ _ h => h) rfl rfl rfl ?_
        refine DW.sg 26 rfl (by kernel_rfl) (fun _ _ _ h => h) rfl rfl rfl ?_
        refine DW.t 27 rfl (by kernel_rfl) (fun _ _ _ h => h) (fun w' hC => Rn.pickF rfl rfl) ?_
        refine DW.t 28 rfl (by kernel_rfl) (fun _ _ _ h => h) (fun w' hC => Rn.assign rfl) ?_
        refine DW.done (by kernel_rfl) (fun _ => he169) ?_
        refine CW.ret ?_
        refine Ret.one rfl rfl ?_
        refine ⟨?_, e171⟩
        simp_all
      · refine DW.tg 14 rfl (by kernel_rfl) (fun _ _ _ h => h) rfl rfl rfl (fun w' hC => Rn.move rfl) ?_
        refine DW.tg 15 rfl (by kernel_rfl) (fun _ _ _ h => h) rfl rfl rfl (fun w' hC => Rn.move rfl) ?_
        refine DW.tg 16 rfl (by kernel_rfl) (fun _ _ _ h => h) rfl rfl rfl (fun w' hC => Rn.rem rfl rfl (by omega) (by omega)) ?_
        have hlt175 : ((x : Int) % 74).toNat < vietAll.length := by omega
        obtain ⟨ad176, cs177, hA178, hs179, hat180, hR181⟩ := SlD.get (hC14.up (Up.trans u25 (Up.trans u156 u164))) (List.getElem?_eq_getElem hlt175)
        rw [show _ = _ from hR181.1] at hat180
        have hhR181 := hR181.2; simp only [I64] at hhR181
        refine DW.tg 17 rfl (by kernel_rfl) (fun _ _ _ h => h) rfl rfl rfl (fun w' hC => Rn.idx es29 rfl rfl hA178 (by omega) (by omega)) ?_
        refine DW.tg 18 rfl (by kernel_rfl) (fun _ _ _ h => h) rfl rfl rfl (fun w' hC => Rn.load sc3 rfl ((hat180.up (Ext.up hC hm166)).cell 0 _ rfl)) ?_
        refine DW.tg 20 rfl (by kernel_rfl) (fun _ _ _ h => h) rfl rfl rfl (fun w' hC => Rn.move rfl) ?_
        refine DW.tg 21 rfl (by kernel_rfl) (fun _ _ _ h => h) rfl rfl rfl (fun w' hC => Rn.move rfl) ?_
        refine DW.tg 22 rfl (by kernel_rfl) (fun _ _ _ h => h) rfl rfl rfl (fun w' hC => Rn.rem rfl rfl (by omega) (by omega)) ?_
        refine DW.tg 23 rfl (by kernel_rfl) (fun _ _ _ h => h) rfl rfl rfl (fun w' hC => Rn.addk rfl rfl (wrapU8 (by omega) (by omega))) ?_
        have hlt182 : (74 + ((x : Int) % 74)).toNat < vietAll.length := by omega
        obtain ⟨ad183, cs184, hA185, hs186, hat187, hR188⟩ := SlD.get (hC14.up (Up.trans u25 (Up.trans u156 u164))) (List.getElem?_eq_getElem hlt182)
        rw [show _ = _ from hR188.1] at hat187
        have hhR188 := hR188.2; simp only [I64] at hhR188
        refine DW.tg 24 rfl (by kernel_rfl) (fun _ _ _ h => h) rfl rfl rfl (fun w' hC => Rn.idx es29 rfl rfl hA185 (by omega) (by omega)) ?_
        refine DW.tg 25 rfl (by kernel_rfl) (fun _ _ _ h => h) rfl rfl rfl (fun w' hC => Rn.load sc3 rfl ((hat187.up (Ext.up hC hm166)).cell 0 _ rfl)) ?_
        refine DW.only 19 (by kernel_rfl) rfl (fun _ => he169) ?_
        refine WL.gtake rfl rfl rfl ?_
        refine WL.call Try.func23 rfl rfl (.cons rfl .nil) (Upper_spec _ _ hm172 (by omega) (by omega)) (fun _ w189 hr190 => ?_)
        obtain ⟨rfl, he191⟩ := hr190
        have u192 := Ext.up he191 hm172
        have e193 := Ext.trans e171 he191
        have hm194 := Up.mb u192
        refine WL.nil ?_
        refine DW.tg 26 rfl (by kernel_rfl) (fun _ _ _ h => h) rfl rfl rfl (fun w' hC => Rn.eql rfl rfl) ?_
        refine DW.t 27 rfl (by kernel_rfl) (fun _ _ _ h => h) (fun w' hC => Rn.pickT rfl rfl) ?_
        refine DW.t 28 rfl (by kernel_rfl) (fun _ _ _ h => h) (fun w' hC => Rn.assign rfl) ?_
        refine DW.done (by kernel_rfl) (fun _ => (Ext.trans he169 he191)) ?_
        refine CW.ret ?_
        refine Ret.one rfl rfl ?_
        refine ⟨?_, e193⟩
        simp_all
    · refine DW.sg 7 rfl (by kernel_rfl) (fun _ _ _ h => h) rfl rfl (decide_eq_false hg173) ?_
      refine DW.sg 8 rfl (by kernel_rfl) (fun _ _ _ h => h) rfl rfl (decide_eq_false hg173) ?_
      refine DW.sg 9 rfl (by kernel_rfl) (fun _ _ _ h => h) rfl rfl (decide_eq_false hg173) ?_
      refine DW.sg 10 rfl (by kernel_rfl) (fun _ _ _ h => h) rfl rfl (decide_eq_false hg173) ?_
      refine DW.sg 11 rfl (by kernel_rfl) (fun _ _ _ h => h) rfl rfl (decide_eq_false hg173) ?_
      refine DW.t 12 rfl (by kernel_rfl) (fun _ _ _ h => h) (fun w' hC => Rn.pickF (congrArg (fun b => some (Value.bool b)) (decide_eq_false hg173)) rfl) ?_
      refine DW.t 13 rfl (by kernel_rfl) (fun _ _ _ h => h) (fun w' hC => Rn.move rfl) ?_
      refine DW.sg 14 rfl (by kernel_rfl) (fun _ _ _ h => h) rfl rfl rfl ?_
      refine DW.sg 15 rfl (by kernel_rfl) (fun _ _ _ h => h) rfl rfl rfl ?_
      refine DW.sg 16 rfl (by kernel_rfl) (fun _ _ _ h => h) rfl rfl rfl ?_
      refine DW.sg 17 rfl (by kernel_rfl) (fun _ _ _ h => h) rfl rfl rfl ?_
      refine DW.sg 18 rfl (by kernel_rfl) (fun _ _ _ h => h) rfl rfl rfl ?_
      refine DW.sg 19 rfl (by kernel_rfl) (fun _ _ _ h => h) rfl rfl rfl ?_
      refine DW.sg 20 rfl (by kernel_rfl) (fun _ _ _ h => h) rfl rfl rfl ?_
      refine DW.sg 21 rfl (by kernel_rfl) (fun _ _ _ h => h) rfl rfl rfl ?_
      refine DW.sg 22 rfl (by kernel_rfl) (fun _ _ _ h => h) rfl rfl rfl ?_
      refine DW.sg 23 rfl (by kernel_rfl) (fun _ _ _ h => h) rfl rfl rfl ?_
      refine DW.sg 24 rfl (by kernel_rfl) (fun _ _ _ h => h) rfl rfl rfl ?_
      refine DW.sg 25 rfl (by kernel_rfl) (fun _ _ _ h => h) rfl rfl rfl ?_
      refine DW.sg 26 rfl (by kernel_rfl) (fun _ _ _ h => h) rfl rfl rfl ?_
      refine DW.t 27 rfl (by kernel_rfl) (fun _ _ _ h => h) (fun w' hC => Rn.pickF rfl rfl) ?_
      refine DW.t 28 rfl (by kernel_rfl) (fun _ _ _ h => h) (fun w' hC => Rn.assign rfl) ?_
      refine DW.done (by kernel_rfl) (fun _ => he169) ?_
      refine CW.ret ?_
      refine Ret.one rfl rfl ?_
      refine ⟨?_, e171⟩
      simp_all

theorem VietAdd_walk (w : World) (M : MS) (hm : MB w M) {x y : Nat} (hx : x ≤ 255) (hy : y ≤ 255) (f0 f3 : Nat) :
    Fc Try.prog 3 #[.int .u8 (x : Int), .int .u8 (y : Int), .float .f64 f0, .float .f64 f3] w fun v w' => v = .bool true ∧ Ext w w' := by
  have e0 := Stp.refl w (fun _ => False)
  have hml : markVals.length = 8 := rfl
  refine Fc.enter (n := 138) [(0, .int .u8 (x : Int)), (1, .int .u8 (y : Int)), (2, .float .f64 f0), (3, .float .f64 f3)] Try.func3 rfl rfl (Nat.le_of_ble_eq_true rfl) (.cons rfl (.cons rfl (.cons rfl (.cons rfl (.nil _))))) ?_
  refine CW.seq ?_
  refine CW.region ?_
  refine WL.assign rfl ?_
  refine WL.nil ?_
  refine CW.seq ?_
  refine CW.seq ?_
  refine CW.region ?_
  refine WL.call Try.func17 rfl rfl .nil (awake_spec _ _ hm) (fun _ w1 hr2 => ?_)
  obtain ⟨rfl, he3⟩ := hr2
  have u4 := Ext.up he3 hm
  have e5 := Ext.trans e0 he3
  have hm6 := Up.mb u4
  refine WL.not_ rfl ?_
  refine WL.nil ?_
  have hev7 : ((!true)) = false := rfl
  refine CW.condF rfl ?_
  refine CW.skip ?_
  refine CW.seq ?_
  refine CW.region ?_
  refine WL.move rfl ?_
  refine WL.convert (by rw [Try.underlying5]; rfl) Try.underlying3 rfl (wrapI64 (by omega)) ?_
  refine WL.rem rfl rfl (by omega) (by omega) ?_
  refine WL.call Try.func18 rfl rfl (.cons rfl .nil) (Letter_spec _ _ hm6 (a := ((x : Int) % 148).toNat) (by omega)) (fun _ w10 hr11 => ?_)
  obtain ⟨⟨q8, hq9, rfl⟩, he12⟩ := hr11
  have u13 := Ext.up he12 hm6
  have e14 := Ext.trans e5 he12
  have hm15 := Up.mb u13
  refine WL.move rfl ?_
  refine WL.extract rfl rfl ?_
  refine WL.extract rfl rfl ?_
  refine WL.extract rfl rfl ?_
  refine WL.alloc (cs := [.int .i64 0, .complex .f64 0 0]) ti26 rfl (fun g16 w17 hg18 hb19 he20 => ?_)
  have u21 := Ext.up he20 hm15
  have e22 := Ext.trans e14 he20
  have hm23 := Up.mb u21
  have hb27 := hb19
  refine WL.storeAll (vs := [.int .i64 q8.1.b, .complex .f64 q8.1.re q8.1.im]) (by rw [ti26]; rfl) rfl rfl (by simp [Value.oneCell']) hb27 rfl (fun w24 hb25 hs26 => ?_)
  have he28 : Ext w10 w24 := Stp.trans he20 hs26 (fun k hk => .inr (by rw [hk]; exact hg18))
  have hn29 := MB.fresh hm15 hg18
  have u30 := Ext.up he28 hm15
  have e31 := Ext.trans e14 he28
  have hm32 := Up.mb u30
  have ha33 := Bk.at_ hb25 hn29
  refine WL.assign rfl ?_
  refine WL.assign rfl ?_
  refine WL.nil ?_
  refine CW.seq ?_
  refine CW.region ?_
  refine WL.call Try.func19 rfl rfl .nil (Marks_spec _ _ hm32) (fun _ w34 hr35 => ?_)
  obtain ⟨⟨va, _, rfl, A37, c38, rfl, hD39⟩, he36⟩ := hr35
  have u40 := Ext.up he36 hm32
  have e41 := Ext.trans e31 he36
  have hm42 := Up.mb u40
  refine WL.move rfl ?_
  refine WL.extract rfl rfl ?_
  refine WL.extract rfl rfl ?_
  refine WL.assign rfl ?_
  refine WL.assign rfl ?_
  refine WL.nil ?_
  refine CW.seq ?_
  refine CW.seq ?_
  refine CW.region ?_
  refine WL.move rfl ?_
  refine WL.move rfl ?_
  refine WL.rem rfl rfl (by omega) (by omega) ?_
  have hlt43 : ((y : Int) % 8).toNat < markVals.length := by omega
  obtain ⟨ad44, cs45, hA46, hs47, hat48, hR49⟩ := SlD.get hD39 (List.getElem?_eq_getElem hlt43)
  rw [show _ = _ from hR49] at hat48
  refine WL.idx es30 rfl rfl hA46 (by omega) (by omega) ?_
  refine WL.load sc24 rfl (hat48.cell 0 _ rfl) ?_
  refine WL.move rfl ?_
  refine WL.move rfl ?_
  refine WL.cplx rfl rfl ?_
  refine WL.move rfl ?_
  refine WL.rem rfl rfl (by omega) (by omega) ?_
  refine WL.convF (by rw [Try.underlying5]; rfl) Try.underlying22 rfl ?_
  refine WL.move rfl ?_
  refine WL.quo rfl rfl (by omega) (by omega) (wrapU8 (by omega) (by omega)) ?_
  refine WL.rem rfl rfl (by omega) (by omega) ?_
  refine WL.convF (by rw [Try.underlying5]; rfl) Try.underlying22 rfl ?_
  refine WL.cplx rfl rfl ?_
  refine WL.move rfl ?_
  refine WL.cplx rfl rfl ?_
  refine WL.bslice Try.underlying30 ti24 rfl (by decide) (by decide) (.cons rfl (.cons rfl (.cons rfl (.cons rfl (.cons rfl (.nil)))))) rfl (by simp [Value.cells]) (fun g5 w5 hg5 hb5 he5 => ?_)
  obtain ⟨vals, hvals⟩ : ∃ vals : List (Nat × Nat), vals = [(markVals[((y : Int) % 8).toNat].1, markVals[((y : Int) % 8).toNat].2), (0, 0), (f0, f3), (fb ((y : Int) % 5), fb (((y : Int) / 5) % 6)), (f0, 0)] := ⟨_, rfl⟩
  have hvl : vals.length = 5 := by rw [hvals]; rfl
  have hb6 : Bk w5 g5 24 (vals.map fun x => [Value.complex .f64 x.1 x.2]).flatten := by rw [hvals]; exact hb5
  have hn5 := MB.fresh hm42 hg5
  clear hvals
  have hDv := Bk.sl (R := CxR) (sz := 1) (fun x => [Value.complex .f64 x.1 x.2]) hb6 (fun x _ => ⟨rfl, rfl⟩) hn5 (by omega)
  have u50 := Ext.up he5 hm42
  have e51 := Ext.trans e41 he5
  have hm52 := Up.mb u50
  refine WL.len Try.underlying30 rfl ?_
  refine WL.move rfl ?_
  refine WL.nil ?_
  refine CW.block ?_
  refine CW.loop (fun m σ wr0 => ∃ k : Nat, m = 5 - k ∧ σ = [(9, .pointer (some ⟨g16, 0, none⟩)), (11, .bool true), (53, .slice (some ⟨g5, 0, none⟩) 5 5), (54, .int .i64 5), (55, .int .i64 (k : Int))] ∧ (Up w5 M wr0 M) ∧ (Ext w wr0) ∧ (Ext w5 wr0) ∧ (k ≤ 5)) _ _ (.cons (t := 9) rfl (.cons (t := 11) rfl (.cons (t := 53) rfl (.cons (t := 54) rfl (.cons (t := 55) rfl (.nil _)))))) ⟨0, rfl, rfl, Up.refl hm52, e51, Stp.refl _ _, by omega⟩ ?_
  rintro m _ wr0 ⟨k, rfl, rfl, hU53, hE54, hX57, hk⟩
  have hm55 := Up.mb hU53
  refine CW.seq ?_
  refine CW.region ?_
  refine WL.lss rfl rfl ?_
  refine WL.nil ?_
  refine CW.seq ?_
  refine CW.condP rfl (fun hc58 => ?_) (fun hc58 => ?_)
  · refine CW.skip ?_
    refine CW.seq ?_
    refine CW.block ?_
    refine CW.seq ?_
    refine CW.region ?_
    have hlt59 : k < vals.length := by omega
    obtain ⟨ad60, cs61, hA62, hs63, hat64, hR65⟩ := SlD.get (hDv.up hU53) (List.getElem?_eq_getElem hlt59)
    rw [show _ = _ from hR65] at hat64
    refine WL.idx es30 rfl rfl hA62 (by omega) (by omega) ?_
    refine WL.load sc24 rfl (hat64.cell 0 _ rfl) ?_
    refine WL.assign rfl ?_
    refine WL.nil ?_
    refine CW.seq ?_
    refine CW.region ?_
    refine WL.loadAgg (cs := [.int .i64 q8.1.b, .complex .f64 q8.1.re q8.1.im]) ag26 rfl (ha33.up (Up.trans u40 (Up.trans u50 hU53))) ?_
    refine WL.move rfl ?_
    refine WL.call Try.func20 rfl rfl (.cons rfl (.cons rfl .nil)) (Add_spec _ _ hm55 q8.1 (vals[k].1) (vals[k].2)) (fun _ w66 hr67 => ?_)
    obtain ⟨hv69, he68⟩ := hr67
    obtain ⟨g, is, rfl, ha1, ha2⟩ := AddR_parts hv69
    have u70 := Ext.up he68 hm55
    have e71 := Ext.trans hE54 he68
    have hm72 := Up.mb u70
    refine WL.move rfl ?_
    refine WL.extract rfl rfl ?_
    refine WL.extract rfl rfl ?_
    refine WL.alloc (cs := [.int .i64 0, .complex .f64 0 0]) ti26 rfl (fun g73 w74 hg75 hb76 he77 => ?_)
    have ne78 : g16 ≠ g73 := by have h1 := Bk.lt (Bk.ext (Bk.ext (Bk.ext (Bk.ext hb25 he36) he5) hX57) he68); have h2 := hg75; omega
    have u79 := Ext.up he77 hm72
    have e80 := Ext.trans e71 he77
    have hm81 := Up.mb u79
    have hb85 := hb76
    refine WL.storeAll (vs := [.int .i64 g.b, .complex .f64 g.re g.im]) (by rw [ti26]; rfl) rfl rfl (by simp [Value.oneCell']) hb85 rfl (fun w82 hb83 hs84 => ?_)
    have he86 : Ext w66 w82 := Stp.trans he77 hs84 (fun k hk => .inr (by rw [hk]; exact hg75))
    have hn87 := MB.fresh hm72 hg75
    have u88 := Ext.up he86 hm72
    have e89 := Ext.trans e71 he86
    have hm90 := Up.mb u88
    have ha91 := Bk.at_ hb83 hn87
    refine WL.assign rfl ?_
    refine WL.nil ?_
    refine CW.seq ?_
    refine CW.region ?_
    refine WL.fieldAddr fo26_1 rfl ?_
    refine WL.load sc24 rfl ((ha33.up (Up.trans u40 (Up.trans u50 (Up.trans hU53 (Up.trans u70 u88))))).cell 1 _ rfl) ?_
    refine WL.real rfl ?_
    refine WL.fne rfl rfl ?_
    refine WL.move rfl ?_
    cases hg92 : !fe q8.1.re 0
    · refine WL.gskip rfl rfl rfl ?_
      refine WL.gskip rfl rfl rfl ?_
      refine WL.gskip rfl rfl rfl ?_
      refine WL.pickF rfl rfl ?_
      refine WL.move rfl ?_
      refine WL.gtake rfl rfl rfl ?_
      refine WL.fieldAddr fo26_1 rfl ?_
      refine WL.gtake rfl rfl rfl ?_
      refine WL.load sc24 rfl ((ha33.up (Up.trans u40 (Up.trans u50 (Up.trans hU53 (Up.trans u70 u88))))).cell 1 _ rfl) ?_
      refine WL.gtake rfl rfl rfl ?_
      refine WL.imag rfl ?_
      refine WL.gtake rfl rfl rfl ?_
      refine WL.fne rfl rfl ?_
      refine WL.gtake rfl rfl rfl ?_
      refine WL.move rfl ?_
      cases hg93 : !fe q8.1.im 0
      · refine WL.gskip rfl rfl rfl ?_
        refine WL.gskip rfl rfl rfl ?_
        refine WL.gskip rfl rfl rfl ?_
        refine WL.gtake rfl rfl rfl ?_
        refine WL.pickF rfl rfl ?_
        refine WL.pickF rfl rfl ?_
        refine WL.assign rfl ?_
        refine WL.nil ?_
        refine CW.seq ?_
        refine CW.region ?_
        refine WL.fieldAddr fo26_0 rfl ?_
        refine WL.load sc3 rfl ((ha33.up (Up.trans u40 (Up.trans u50 (Up.trans hU53 (Up.trans u70 u88))))).cell 0 _ rfl) ?_
        refine WL.fieldAddr fo26_1 rfl ?_
        refine WL.load sc24 rfl ((ha33.up (Up.trans u40 (Up.trans u50 (Up.trans hU53 (Up.trans u70 u88))))).cell 1 _ rfl) ?_
        refine WL.move rfl ?_
        refine WL.cadd rfl rfl (fun r94 s95 w96 hr97 hs98 he99 => ?_)
        have u100 := Ext.up he99 hm90
        have e101 := Ext.trans e89 he99
        have hm102 := Up.mb u100
        refine WL.real rfl ?_
        refine WL.fieldAddr fo26_1 rfl ?_
        refine WL.load sc24 rfl ((ha33.up (Up.trans u40 (Up.trans u50 (Up.trans hU53 (Up.trans u70 (Up.trans u88 u100)))))).cell 1 _ rfl) ?_
        refine WL.move rfl ?_
        refine WL.cadd rfl rfl (fun r103 s104 w105 hr106 hs107 he108 => ?_)
        have u109 := Ext.up he108 hm102
        have e110 := Ext.trans e101 he108
        have hm111 := Up.mb u109
        refine WL.imag rfl ?_
        refine WL.call Try.func21 rfl rfl (.cons rfl (.cons rfl (.cons rfl .nil))) (LJoin_spec _ _ hm111 q8.1.b r94 s104) (fun _ w112 hr113 => ?_)
        obtain ⟨⟨cc, rfl⟩, he114⟩ := hr113
        have u115 := Ext.up he114 hm111
        have e116 := Ext.trans e110 he114
        have hm117 := Up.mb u115
        refine WL.move rfl ?_
        refine WL.extract rfl rfl ?_
        refine WL.extract rfl rfl ?_
        refine WL.assign rfl ?_
        refine WL.assign rfl ?_
        refine WL.nil ?_
        refine CW.seq ?_
        refine CW.region ?_
        obtain ⟨hql, hqe⟩ := List.getElem?_eq_some_iff.1 hq9
        obtain ⟨_, _, _, _, hfr, hfi⟩ := viet_ok hql
        rw [hqe] at hfr hfi
        have hcl : clash q8.1 (vals[k].1) (vals[k].2) = false := by simp [clash, *]
        obtain ⟨r0, s0, f1, f2, hij, hgq⟩ := ha2 hcl
        have hjj := J_same q8.1.b f1 hr97 f2 hs107
        rw [← hij] at hjj
        cases is
        · have hjv : J q8.1.b r94 s104 = false := hjj.symm
          simp only [Bool.false_eq_true, if_false, if_true] at hgq
          refine WL.move rfl ?_
          refine WL.move rfl ?_
          refine WL.not_ rfl ?_
          refine WL.move rfl ?_
          refine WL.gtake rfl rfl rfl ?_
          refine WL.move rfl ?_
          have hev118 : ((!false)) = true := rfl
          refine WL.pickT rfl rfl ?_
          refine WL.bne rfl rfl Try.underlying4 ?_
          refine WL.move rfl ?_
          have hev119 : (false != (J q8.1.b r94 s104)) = false := by rw [hjv]; rfl
          refine WL.gtake rfl rfl hev119 ?_
          refine WL.move rfl ?_
          refine WL.gtake rfl rfl hev119 ?_
          refine WL.move rfl ?_
          refine WL.gskip rfl rfl rfl ?_
          refine WL.gskip rfl rfl rfl ?_
          refine WL.gskip rfl rfl rfl ?_
          refine WL.gskip rfl rfl rfl ?_
          refine WL.gskip rfl rfl rfl ?_
          refine WL.gskip rfl rfl rfl ?_
          refine WL.uskip rfl rfl ?_
          refine WL.uskip rfl rfl ?_
          refine WL.uskip rfl rfl ?_
          refine WL.uskip rfl rfl ?_
          refine WL.uskip rfl rfl ?_
          refine WL.uskip rfl rfl ?_
          refine WL.uskip rfl rfl ?_
          refine WL.gskip rfl rfl rfl ?_
          refine WL.gtake rfl rfl hev119 ?_
          refine WL.pickF rfl rfl ?_
          refine WL.pickF (congrArg (fun b => some (Value.bool b)) hev119) rfl ?_
          refine WL.move rfl ?_
          refine WL.gtake rfl rfl rfl ?_
          refine WL.move rfl ?_
          refine WL.gtake rfl rfl rfl ?_
          refine WL.not_ rfl ?_
          refine WL.gtake rfl rfl rfl ?_
          refine WL.move rfl ?_
          refine WL.gtake rfl rfl rfl ?_
          refine WL.loadAgg (cs := [.int .i64 g.b, .complex .f64 g.re g.im]) ag26 rfl (ha91.up (Up.trans u100 (Up.trans u109 u115))) ?_
          refine WL.gtake rfl rfl rfl ?_
          refine WL.loadAgg (cs := [.int .i64 q8.1.b, .complex .f64 q8.1.re q8.1.im]) ag26 rfl (ha33.up (Up.trans u40 (Up.trans u50 (Up.trans hU53 (Up.trans u70 (Up.trans u88 (Up.trans u100 (Up.trans u109 u115)))))))) ?_
          refine WL.gtake rfl rfl rfl ?_
          refine WL.rn (nes26 rfl rfl) ?_
          refine WL.gtake rfl rfl rfl ?_
          refine WL.pickT rfl rfl ?_
          refine WL.pickF rfl rfl ?_
          refine WL.nil ?_
          have hev120 : (!(decide (g.b = q8.1.b) && (fe g.re q8.1.re && fe g.im q8.1.im))) = false := by rw [hgq]; simp [hfr, hfi]
          refine CW.condF (congrArg (fun b => some (Value.bool b)) hev120) ?_
          refine CW.skip ?_
          refine CW.region ?_
          refine WL.add rfl rfl (by omega) ?_
          refine WL.move rfl ?_
          refine WL.nil ?_
          refine Loop.again _ _ ?_ ?_ ⟨k + 1, rfl, rfl, (Up.trans hU53 (Up.trans u70 (Up.trans u88 (Up.trans u100 (Up.trans u109 u115))))), e116, (Ext.trans (Ext.trans (Ext.trans (Ext.trans (Ext.trans hX57 he68) he86) he99) he108) he114), by omega⟩
          · omega
          · exact .cons (t := 9) rfl (.cons (t := 11) rfl (.cons (t := 53) rfl (.cons (t := 54) rfl (.cons (t := 55) rfl (.nil _)))))
        · have hjv : J q8.1.b r94 s104 = true := hjj.symm
          simp only [if_true] at hgq
          have hgb : g.b = q8.1.b := by rw [hgq]
          have hgr : g.re = r0 := by rw [hgq]
          have hgi : g.im = s0 := by rw [hgq]
          refine WL.move rfl ?_
          refine WL.move rfl ?_
          refine WL.not_ rfl ?_
          refine WL.move rfl ?_
          refine WL.gtake rfl rfl rfl ?_
          refine WL.move rfl ?_
          have hev121 : ((!false)) = true := rfl
          refine WL.pickT rfl rfl ?_
          refine WL.bne rfl rfl Try.underlying4 ?_
          refine WL.move rfl ?_
          have hev122 : (true != (J q8.1.b r94 s104)) = false := by rw [hjv]; rfl
          refine WL.gtake rfl rfl hev122 ?_
          refine WL.move rfl ?_
          refine WL.gtake rfl rfl hev122 ?_
          refine WL.move rfl ?_
          refine WL.gtake rfl rfl rfl ?_
          refine WL.fieldAddr fo26_0 rfl ?_
          refine WL.gtake rfl rfl rfl ?_
          refine WL.load sc3 rfl ((ha91.up (Up.trans u100 (Up.trans u109 u115))).cell 0 _ rfl) ?_
          refine WL.gtake rfl rfl rfl ?_
          refine WL.fieldAddr fo26_0 rfl ?_
          refine WL.gtake rfl rfl rfl ?_
          refine WL.load sc3 rfl ((ha33.up (Up.trans u40 (Up.trans u50 (Up.trans hU53 (Up.trans u70 (Up.trans u88 (Up.trans u100 (Up.trans u109 u115)))))))).cell 0 _ rfl) ?_
          refine WL.gtake rfl rfl rfl ?_
          refine WL.neq rfl rfl ?_
          refine WL.gtake rfl rfl rfl ?_
          refine WL.move rfl ?_
          have hev123 : ¬ (g.b ≠ q8.1.b) := by rw [hgb]; simp
          refine WL.gtake rfl rfl (decide_eq_false hev123) ?_
          refine WL.fieldAddr fo26_1 rfl ?_
          refine WL.gtake rfl rfl (decide_eq_false hev123) ?_
          refine WL.load sc24 rfl ((ha91.up (Up.trans u100 (Up.trans u109 u115))).cell 1 _ rfl) ?_
          refine WL.gtake rfl rfl (decide_eq_false hev123) ?_
          refine WL.fieldAddr fo26_1 rfl ?_
          refine WL.gtake rfl rfl (decide_eq_false hev123) ?_
          refine WL.load sc24 rfl ((ha33.up (Up.trans u40 (Up.trans u50 (Up.trans hU53 (Up.trans u70 (Up.trans u88 (Up.trans u100 (Up.trans u109 u115)))))))).cell 1 _ rfl) ?_
          refine WL.gtake rfl rfl (decide_eq_false hev123) ?_
          refine WL.move rfl ?_
          refine WL.gtake rfl rfl (decide_eq_false hev123) ?_
          refine WL.cadd rfl rfl (fun r124 s125 w126 hr127 hs128 he129 => ?_)
          have u130 := Ext.up he129 hm117
          have e131 := Ext.trans e116 he129
          have hm132 := Up.mb u130
          refine WL.gtake rfl rfl (decide_eq_false hev123) ?_
          refine WL.cne rfl rfl ?_
          refine WL.gtake rfl rfl rfl ?_
          refine WL.pickF (congrArg (fun b => some (Value.bool b)) (decide_eq_false hev123)) rfl ?_
          refine WL.gtake rfl rfl hev122 ?_
          refine WL.pickT rfl rfl ?_
          refine WL.pickF (congrArg (fun b => some (Value.bool b)) hev122) rfl ?_
          refine WL.move rfl ?_
          have hev133 : (!(fe g.re r124 && fe g.im s125)) = false := by rw [hgr, hgi, J_fe f1 hr127 f2 hs128 hij.symm]; rfl
          refine WL.gtake rfl rfl hev133 ?_
          refine WL.move rfl ?_
          refine WL.gtake rfl rfl hev133 ?_
          refine WL.not_ rfl ?_
          refine WL.gtake rfl rfl hev133 ?_
          refine WL.move rfl ?_
          refine WL.gskip rfl rfl rfl ?_
          refine WL.gskip rfl rfl rfl ?_
          refine WL.gskip rfl rfl rfl ?_
          refine WL.gtake rfl rfl hev133 ?_
          have hev134 : ((!true)) = false := rfl
          refine WL.pickF rfl rfl ?_
          refine WL.pickF (congrArg (fun b => some (Value.bool b)) hev133) rfl ?_
          refine WL.nil ?_
          refine CW.condF rfl ?_
          refine CW.skip ?_
          refine CW.region ?_
          refine WL.add rfl rfl (by omega) ?_
          refine WL.move rfl ?_
          refine WL.nil ?_
          refine Loop.again _ _ ?_ ?_ ⟨k + 1, rfl, rfl, (Up.trans hU53 (Up.trans u70 (Up.trans u88 (Up.trans u100 (Up.trans u109 (Up.trans u115 u130)))))), e131, (Ext.trans (Ext.trans (Ext.trans (Ext.trans (Ext.trans (Ext.trans hX57 he68) he86) he99) he108) he114) he129), by omega⟩
          · omega
          · exact .cons (t := 9) rfl (.cons (t := 11) rfl (.cons (t := 53) rfl (.cons (t := 54) rfl (.cons (t := 55) rfl (.nil _)))))
      · refine WL.gtake rfl rfl rfl ?_
        refine WL.move rfl ?_
        refine WL.gtake rfl rfl rfl ?_
        refine WL.imag rfl ?_
        refine WL.gtake rfl rfl rfl ?_
        refine WL.fne rfl rfl ?_
        refine WL.gtake rfl rfl rfl ?_
        refine WL.pickT rfl rfl ?_
        refine WL.pickF rfl rfl ?_
        refine WL.assign rfl ?_
        refine WL.nil ?_
        refine CW.seq ?_
        refine CW.region ?_
        refine WL.fieldAddr fo26_0 rfl ?_
        refine WL.load sc3 rfl ((ha33.up (Up.trans u40 (Up.trans u50 (Up.trans hU53 (Up.trans u70 u88))))).cell 0 _ rfl) ?_
        refine WL.fieldAddr fo26_1 rfl ?_
        refine WL.load sc24 rfl ((ha33.up (Up.trans u40 (Up.trans u50 (Up.trans hU53 (Up.trans u70 u88))))).cell 1 _ rfl) ?_
        refine WL.move rfl ?_
        refine WL.cadd rfl rfl (fun r135 s136 w137 hr138 hs139 he140 => ?_)
        have u141 := Ext.up he140 hm90
        have e142 := Ext.trans e89 he140
        have hm143 := Up.mb u141
        refine WL.real rfl ?_
        refine WL.fieldAddr fo26_1 rfl ?_
        refine WL.load sc24 rfl ((ha33.up (Up.trans u40 (Up.trans u50 (Up.trans hU53 (Up.trans u70 (Up.trans u88 u141)))))).cell 1 _ rfl) ?_
        refine WL.move rfl ?_
        refine WL.cadd rfl rfl (fun r144 s145 w146 hr147 hs148 he149 => ?_)
        have u150 := Ext.up he149 hm143
        have e151 := Ext.trans e142 he149
        have hm152 := Up.mb u150
        refine WL.imag rfl ?_
        refine WL.call Try.func21 rfl rfl (.cons rfl (.cons rfl (.cons rfl .nil))) (LJoin_spec _ _ hm152 q8.1.b r135 s145) (fun _ w153 hr154 => ?_)
        obtain ⟨⟨cc, rfl⟩, he155⟩ := hr154
        have u156 := Ext.up he155 hm152
        have e157 := Ext.trans e151 he155
        have hm158 := Up.mb u156
        refine WL.move rfl ?_
        refine WL.extract rfl rfl ?_
        refine WL.extract rfl rfl ?_
        refine WL.assign rfl ?_
        refine WL.assign rfl ?_
        refine WL.nil ?_
        refine CW.seq ?_
        refine CW.region ?_
        cases hg159 : !fe (vals[k].2) 0
        · obtain ⟨hql, hqe⟩ := List.getElem?_eq_some_iff.1 hq9
          obtain ⟨_, _, _, _, hfr, hfi⟩ := viet_ok hql
          rw [hqe] at hfr hfi
          have hcl : clash q8.1 (vals[k].1) (vals[k].2) = false := by simp [clash, *]
          obtain ⟨r0, s0, f1, f2, hij, hgq⟩ := ha2 hcl
          have hjj := J_same q8.1.b f1 hr138 f2 hs148
          rw [← hij] at hjj
          cases is
          · have hjv : J q8.1.b r135 s145 = false := hjj.symm
            simp only [Bool.false_eq_true, if_false, if_true] at hgq
            refine WL.move rfl ?_
            refine WL.move rfl ?_
            refine WL.not_ rfl ?_
            refine WL.move rfl ?_
            refine WL.gtake rfl rfl rfl ?_
            refine WL.move rfl ?_
            have hev160 : ((!false)) = true := rfl
            refine WL.pickT rfl rfl ?_
            refine WL.bne rfl rfl Try.underlying4 ?_
            refine WL.move rfl ?_
            have hev161 : (false != (J q8.1.b r135 s145)) = false := by rw [hjv]; rfl
            refine WL.gtake rfl rfl hev161 ?_
            refine WL.move rfl ?_
            refine WL.gtake rfl rfl hev161 ?_
            refine WL.move rfl ?_
            refine WL.gskip rfl rfl rfl ?_
            refine WL.gskip rfl rfl rfl ?_
            refine WL.gskip rfl rfl rfl ?_
            refine WL.gskip rfl rfl rfl ?_
            refine WL.gskip rfl rfl rfl ?_
            refine WL.gskip rfl rfl rfl ?_
            refine WL.uskip rfl rfl ?_
            refine WL.uskip rfl rfl ?_
            refine WL.uskip rfl rfl ?_
            refine WL.uskip rfl rfl ?_
            refine WL.uskip rfl rfl ?_
            refine WL.uskip rfl rfl ?_
            refine WL.uskip rfl rfl ?_
            refine WL.gskip rfl rfl rfl ?_
            refine WL.gtake rfl rfl hev161 ?_
            refine WL.pickF rfl rfl ?_
            refine WL.pickF (congrArg (fun b => some (Value.bool b)) hev161) rfl ?_
            refine WL.move rfl ?_
            refine WL.gtake rfl rfl rfl ?_
            refine WL.move rfl ?_
            refine WL.gtake rfl rfl rfl ?_
            refine WL.not_ rfl ?_
            refine WL.gtake rfl rfl rfl ?_
            refine WL.move rfl ?_
            refine WL.gtake rfl rfl rfl ?_
            refine WL.loadAgg (cs := [.int .i64 g.b, .complex .f64 g.re g.im]) ag26 rfl (ha91.up (Up.trans u141 (Up.trans u150 u156))) ?_
            refine WL.gtake rfl rfl rfl ?_
            refine WL.loadAgg (cs := [.int .i64 q8.1.b, .complex .f64 q8.1.re q8.1.im]) ag26 rfl (ha33.up (Up.trans u40 (Up.trans u50 (Up.trans hU53 (Up.trans u70 (Up.trans u88 (Up.trans u141 (Up.trans u150 u156)))))))) ?_
            refine WL.gtake rfl rfl rfl ?_
            refine WL.rn (nes26 rfl rfl) ?_
            refine WL.gtake rfl rfl rfl ?_
            refine WL.pickT rfl rfl ?_
            refine WL.pickF rfl rfl ?_
            refine WL.nil ?_
            have hev162 : (!(decide (g.b = q8.1.b) && (fe g.re q8.1.re && fe g.im q8.1.im))) = false := by rw [hgq]; simp [hfr, hfi]
            refine CW.condF (congrArg (fun b => some (Value.bool b)) hev162) ?_
            refine CW.skip ?_
            refine CW.region ?_
            refine WL.add rfl rfl (by omega) ?_
            refine WL.move rfl ?_
            refine WL.nil ?_
            refine Loop.again _ _ ?_ ?_ ⟨k + 1, rfl, rfl, (Up.trans hU53 (Up.trans u70 (Up.trans u88 (Up.trans u141 (Up.trans u150 u156))))), e157, (Ext.trans (Ext.trans (Ext.trans (Ext.trans (Ext.trans hX57 he68) he86) he140) he149) he155), by omega⟩
            · omega
            · exact .cons (t := 9) rfl (.cons (t := 11) rfl (.cons (t := 53) rfl (.cons (t := 54) rfl (.cons (t := 55) rfl (.nil _)))))
          · have hjv : J q8.1.b r135 s145 = true := hjj.symm
            simp only [if_true] at hgq
            have hgb : g.b = q8.1.b := by rw [hgq]
            have hgr : g.re = r0 := by rw [hgq]
            have hgi : g.im = s0 := by rw [hgq]
            refine WL.move rfl ?_
            refine WL.move rfl ?_
            refine WL.not_ rfl ?_
            refine WL.move rfl ?_
            refine WL.gtake rfl rfl rfl ?_
            refine WL.move rfl ?_
            have hev163 : ((!false)) = true := rfl
            refine WL.pickT rfl rfl ?_
            refine WL.bne rfl rfl Try.underlying4 ?_
            refine WL.move rfl ?_
            have hev164 : (true != (J q8.1.b r135 s145)) = false := by rw [hjv]; rfl
            refine WL.gtake rfl rfl hev164 ?_
            refine WL.move rfl ?_
            refine WL.gtake rfl rfl hev164 ?_
            refine WL.move rfl ?_
            refine WL.gtake rfl rfl rfl ?_
            refine WL.fieldAddr fo26_0 rfl ?_
            refine WL.gtake rfl rfl rfl ?_
            refine WL.load sc3 rfl ((ha91.up (Up.trans u141 (Up.trans u150 u156))).cell 0 _ rfl) ?_
            refine WL.gtake rfl rfl rfl ?_
            refine WL.fieldAddr fo26_0 rfl ?_
            refine WL.gtake rfl rfl rfl ?_
            refine WL.load sc3 rfl ((ha33.up (Up.trans u40 (Up.trans u50 (Up.trans hU53 (Up.trans u70 (Up.trans u88 (Up.trans u141 (Up.trans u150 u156)))))))).cell 0 _ rfl) ?_
            refine WL.gtake rfl rfl rfl ?_
            refine WL.neq rfl rfl ?_
            refine WL.gtake rfl rfl rfl ?_
            refine WL.move rfl ?_
            have hev165 : ¬ (g.b ≠ q8.1.b) := by rw [hgb]; simp
            refine WL.gtake rfl rfl (decide_eq_false hev165) ?_
            refine WL.fieldAddr fo26_1 rfl ?_
            refine WL.gtake rfl rfl (decide_eq_false hev165) ?_
            refine WL.load sc24 rfl ((ha91.up (Up.trans u141 (Up.trans u150 u156))).cell 1 _ rfl) ?_
            refine WL.gtake rfl rfl (decide_eq_false hev165) ?_
            refine WL.fieldAddr fo26_1 rfl ?_
            refine WL.gtake rfl rfl (decide_eq_false hev165) ?_
            refine WL.load sc24 rfl ((ha33.up (Up.trans u40 (Up.trans u50 (Up.trans hU53 (Up.trans u70 (Up.trans u88 (Up.trans u141 (Up.trans u150 u156)))))))).cell 1 _ rfl) ?_
            refine WL.gtake rfl rfl (decide_eq_false hev165) ?_
            refine WL.move rfl ?_
            refine WL.gtake rfl rfl (decide_eq_false hev165) ?_
            refine WL.cadd rfl rfl (fun r166 s167 w168 hr169 hs170 he171 => ?_)
            have u172 := Ext.up he171 hm158
            have e173 := Ext.trans e157 he171
            have hm174 := Up.mb u172
            refine WL.gtake rfl rfl (decide_eq_false hev165) ?_
            refine WL.cne rfl rfl ?_
            refine WL.gtake rfl rfl rfl ?_
            refine WL.pickF (congrArg (fun b => some (Value.bool b)) (decide_eq_false hev165)) rfl ?_
            refine WL.gtake rfl rfl hev164 ?_
            refine WL.pickT rfl rfl ?_
            refine WL.pickF (congrArg (fun b => some (Value.bool b)) hev164) rfl ?_
            refine WL.move rfl ?_
            have hev175 : (!(fe g.re r166 && fe g.im s167)) = false := by rw [hgr, hgi, J_fe f1 hr169 f2 hs170 hij.symm]; rfl
            refine WL.gtake rfl rfl hev175 ?_
            refine WL.move rfl ?_
            refine WL.gtake rfl rfl hev175 ?_
            refine WL.not_ rfl ?_
            refine WL.gtake rfl rfl hev175 ?_
            refine WL.move rfl ?_
            refine WL.gskip rfl rfl rfl ?_
            refine WL.gskip rfl rfl rfl ?_
            refine WL.gskip rfl rfl rfl ?_
            refine WL.gtake rfl rfl hev175 ?_
            have hev176 : ((!true)) = false := rfl
            refine WL.pickF rfl rfl ?_
            refine WL.pickF (congrArg (fun b => some (Value.bool b)) hev175) rfl ?_
            refine WL.nil ?_
            refine CW.condF rfl ?_
            refine CW.skip ?_
            refine CW.region ?_
            refine WL.add rfl rfl (by omega) ?_
            refine WL.move rfl ?_
            refine WL.nil ?_
            refine Loop.again _ _ ?_ ?_ ⟨k + 1, rfl, rfl, (Up.trans hU53 (Up.trans u70 (Up.trans u88 (Up.trans u141 (Up.trans u150 (Up.trans u156 u172)))))), e173, (Ext.trans (Ext.trans (Ext.trans (Ext.trans (Ext.trans (Ext.trans hX57 he68) he86) he140) he149) he155) he171), by omega⟩
            · omega
            · exact .cons (t := 9) rfl (.cons (t := 11) rfl (.cons (t := 53) rfl (.cons (t := 54) rfl (.cons (t := 55) rfl (.nil _)))))
        · obtain ⟨hql, hqe⟩ := List.getElem?_eq_some_iff.1 hq9
          obtain ⟨_, _, _, _, hfr, hfi⟩ := viet_ok hql
          rw [hqe] at hfr hfi
          have hcl : clash q8.1 (vals[k].1) (vals[k].2) = true := by simp [clash, *]
          obtain ⟨rfl, hgq⟩ := ha1 hcl
          refine WL.move rfl ?_
          refine WL.move rfl ?_
          refine WL.not_ rfl ?_
          refine WL.move rfl ?_
          refine WL.gskip rfl rfl rfl ?_
          have hev177 : ((!true)) = false := rfl
          refine WL.pickF rfl rfl ?_
          refine WL.bne rfl rfl Try.underlying4 ?_
          refine WL.move rfl ?_
          have hev178 : (false != false) = false := rfl
          refine WL.gtake rfl rfl hev178 ?_
          refine WL.move rfl ?_
          refine WL.gtake rfl rfl hev178 ?_
          refine WL.move rfl ?_
          refine WL.gskip rfl rfl rfl ?_
          refine WL.gskip rfl rfl rfl ?_
          refine WL.gskip rfl rfl rfl ?_
          refine WL.gskip rfl rfl rfl ?_
          refine WL.gskip rfl rfl rfl ?_
          refine WL.gskip rfl rfl rfl ?_
          refine WL.uskip rfl rfl ?_
          refine WL.uskip rfl rfl ?_
          refine WL.uskip rfl rfl ?_
          refine WL.uskip rfl rfl ?_
          refine WL.uskip rfl rfl ?_
          refine WL.uskip rfl rfl ?_
          refine WL.uskip rfl rfl ?_
          refine WL.gskip rfl rfl rfl ?_
          refine WL.gtake rfl rfl hev178 ?_
          refine WL.pickF rfl rfl ?_
          refine WL.pickF (congrArg (fun b => some (Value.bool b)) hev178) rfl ?_
          refine WL.move rfl ?_
          refine WL.gtake rfl rfl rfl ?_
          refine WL.move rfl ?_
          refine WL.gtake rfl rfl rfl ?_
          refine WL.not_ rfl ?_
          refine WL.gtake rfl rfl rfl ?_
          refine WL.move rfl ?_
          refine WL.gtake rfl rfl rfl ?_
          refine WL.loadAgg (cs := [.int .i64 g.b, .complex .f64 g.re g.im]) ag26 rfl (ha91.up (Up.trans u141 (Up.trans u150 u156))) ?_
          refine WL.gtake rfl rfl rfl ?_
          refine WL.loadAgg (cs := [.int .i64 q8.1.b, .complex .f64 q8.1.re q8.1.im]) ag26 rfl (ha33.up (Up.trans u40 (Up.trans u50 (Up.trans hU53 (Up.trans u70 (Up.trans u88 (Up.trans u141 (Up.trans u150 u156)))))))) ?_
          refine WL.gtake rfl rfl rfl ?_
          refine WL.rn (nes26 rfl rfl) ?_
          refine WL.gtake rfl rfl rfl ?_
          have hev179 : ((!false)) = true := rfl
          refine WL.pickT rfl rfl ?_
          refine WL.pickF rfl rfl ?_
          refine WL.nil ?_
          have hev180 : (!(decide (g.b = q8.1.b) && (fe g.re q8.1.re && fe g.im q8.1.im))) = false := by rw [hgq]; simp [hfr, hfi]
          refine CW.condF (congrArg (fun b => some (Value.bool b)) hev180) ?_
          refine CW.skip ?_
          refine CW.region ?_
          refine WL.add rfl rfl (by omega) ?_
          refine WL.move rfl ?_
          refine WL.nil ?_
          refine Loop.again _ _ ?_ ?_ ⟨k + 1, rfl, rfl, (Up.trans hU53 (Up.trans u70 (Up.trans u88 (Up.trans u141 (Up.trans u150 u156))))), e157, (Ext.trans (Ext.trans (Ext.trans (Ext.trans (Ext.trans hX57 he68) he86) he140) he149) he155), by omega⟩
          · omega
          · exact .cons (t := 9) rfl (.cons (t := 11) rfl (.cons (t := 53) rfl (.cons (t := 54) rfl (.cons (t := 55) rfl (.nil _)))))
    · refine WL.gtake rfl rfl rfl ?_
      refine WL.move rfl ?_
      refine WL.gtake rfl rfl rfl ?_
      refine WL.real rfl ?_
      refine WL.gtake rfl rfl rfl ?_
      refine WL.fne rfl rfl ?_
      refine WL.pickT rfl rfl ?_
      refine WL.move rfl ?_
      cases hg181 : !fe (vals[k].1) 0
      · refine WL.gtake rfl rfl rfl ?_
        refine WL.fieldAddr fo26_1 rfl ?_
        refine WL.gtake rfl rfl rfl ?_
        refine WL.load sc24 rfl ((ha33.up (Up.trans u40 (Up.trans u50 (Up.trans hU53 (Up.trans u70 u88))))).cell 1 _ rfl) ?_
        refine WL.gtake rfl rfl rfl ?_
        refine WL.imag rfl ?_
        refine WL.gtake rfl rfl rfl ?_
        refine WL.fne rfl rfl ?_
        refine WL.gtake rfl rfl rfl ?_
        refine WL.move rfl ?_
        cases hg182 : !fe q8.1.im 0
        · refine WL.gskip rfl rfl rfl ?_
          refine WL.gskip rfl rfl rfl ?_
          refine WL.gskip rfl rfl rfl ?_
          refine WL.gtake rfl rfl rfl ?_
          refine WL.pickF rfl rfl ?_
          refine WL.pickF rfl rfl ?_
          refine WL.assign rfl ?_
          refine WL.nil ?_
          refine CW.seq ?_
          refine CW.region ?_
          refine WL.fieldAddr fo26_0 rfl ?_
          refine WL.load sc3 rfl ((ha33.up (Up.trans u40 (Up.trans u50 (Up.trans hU53 (Up.trans u70 u88))))).cell 0 _ rfl) ?_
          refine WL.fieldAddr fo26_1 rfl ?_
          refine WL.load sc24 rfl ((ha33.up (Up.trans u40 (Up.trans u50 (Up.trans hU53 (Up.trans u70 u88))))).cell 1 _ rfl) ?_
          refine WL.move rfl ?_
          refine WL.cadd rfl rfl (fun r183 s184 w185 hr186 hs187 he188 => ?_)
          have u189 := Ext.up he188 hm90
          have e190 := Ext.trans e89 he188
          have hm191 := Up.mb u189
          refine WL.real rfl ?_
          refine WL.fieldAddr fo26_1 rfl ?_
          refine WL.load sc24 rfl ((ha33.up (Up.trans u40 (Up.trans u50 (Up.trans hU53 (Up.trans u70 (Up.trans u88 u189)))))).cell 1 _ rfl) ?_
          refine WL.move rfl ?_
          refine WL.cadd rfl rfl (fun r192 s193 w194 hr195 hs196 he197 => ?_)
          have u198 := Ext.up he197 hm191
          have e199 := Ext.trans e190 he197
          have hm200 := Up.mb u198
          refine WL.imag rfl ?_
          refine WL.call Try.func21 rfl rfl (.cons rfl (.cons rfl (.cons rfl .nil))) (LJoin_spec _ _ hm200 q8.1.b r183 s193) (fun _ w201 hr202 => ?_)
          obtain ⟨⟨cc, rfl⟩, he203⟩ := hr202
          have u204 := Ext.up he203 hm200
          have e205 := Ext.trans e199 he203
          have hm206 := Up.mb u204
          refine WL.move rfl ?_
          refine WL.extract rfl rfl ?_
          refine WL.extract rfl rfl ?_
          refine WL.assign rfl ?_
          refine WL.assign rfl ?_
          refine WL.nil ?_
          refine CW.seq ?_
          refine CW.region ?_
          obtain ⟨hql, hqe⟩ := List.getElem?_eq_some_iff.1 hq9
          obtain ⟨_, _, _, _, hfr, hfi⟩ := viet_ok hql
          rw [hqe] at hfr hfi
          have hcl : clash q8.1 (vals[k].1) (vals[k].2) = false := by simp [clash, *]
          obtain ⟨r0, s0, f1, f2, hij, hgq⟩ := ha2 hcl
          have hjj := J_same q8.1.b f1 hr186 f2 hs196
          rw [← hij] at hjj
          cases is
          · have hjv : J q8.1.b r183 s193 = false := hjj.symm
            simp only [Bool.false_eq_true, if_false, if_true] at hgq
            refine WL.move rfl ?_
            refine WL.move rfl ?_
            refine WL.not_ rfl ?_
            refine WL.move rfl ?_
            refine WL.gtake rfl rfl rfl ?_
            refine WL.move rfl ?_
            have hev207 : ((!false)) = true := rfl
            refine WL.pickT rfl rfl ?_
            refine WL.bne rfl rfl Try.underlying4 ?_
            refine WL.move rfl ?_
            have hev208 : (false != (J q8.1.b r183 s193)) = false := by rw [hjv]; rfl
            refine WL.gtake rfl rfl hev208 ?_
            refine WL.move rfl ?_
            refine WL.gtake rfl rfl hev208 ?_
            refine WL.move rfl ?_
            refine WL.gskip rfl rfl rfl ?_
            refine WL.gskip rfl rfl rfl ?_
            refine WL.gskip rfl rfl rfl ?_
            refine WL.gskip rfl rfl rfl ?_
            refine WL.gskip rfl rfl rfl ?_
            refine WL.gskip rfl rfl rfl ?_
            refine WL.uskip rfl rfl ?_
            refine WL.uskip rfl rfl ?_
            refine WL.uskip rfl rfl ?_
            refine WL.uskip rfl rfl ?_
            refine WL.uskip rfl rfl ?_
            refine WL.uskip rfl rfl ?_
            refine WL.uskip rfl rfl ?_
            refine WL.gskip rfl rfl rfl ?_
            refine WL.gtake rfl rfl hev208 ?_
            refine WL.pickF rfl rfl ?_
            refine WL.pickF (congrArg (fun b => some (Value.bool b)) hev208) rfl ?_
            refine WL.move rfl ?_
            refine WL.gtake rfl rfl rfl ?_
            refine WL.move rfl ?_
            refine WL.gtake rfl rfl rfl ?_
            refine WL.not_ rfl ?_
            refine WL.gtake rfl rfl rfl ?_
            refine WL.move rfl ?_
            refine WL.gtake rfl rfl rfl ?_
            refine WL.loadAgg (cs := [.int .i64 g.b, .complex .f64 g.re g.im]) ag26 rfl (ha91.up (Up.trans u189 (Up.trans u198 u204))) ?_
            refine WL.gtake rfl rfl rfl ?_
            refine WL.loadAgg (cs := [.int .i64 q8.1.b, .complex .f64 q8.1.re q8.1.im]) ag26 rfl (ha33.up (Up.trans u40 (Up.trans u50 (Up.trans hU53 (Up.trans u70 (Up.trans u88 (Up.trans u189 (Up.trans u198 u204)))))))) ?_
            refine WL.gtake rfl rfl rfl ?_
            refine WL.rn (nes26 rfl rfl) ?_
            refine WL.gtake rfl rfl rfl ?_
            refine WL.pickT rfl rfl ?_
            refine WL.pickF rfl rfl ?_
            refine WL.nil ?_
            have hev209 : (!(decide (g.b = q8.1.b) && (fe g.re q8.1.re && fe g.im q8.1.im))) = false := by rw [hgq]; simp [hfr, hfi]
            refine CW.condF (congrArg (fun b => some (Value.bool b)) hev209) ?_
            refine CW.skip ?_
            refine CW.region ?_
            refine WL.add rfl rfl (by omega) ?_
            refine WL.move rfl ?_
            refine WL.nil ?_
            refine Loop.again _ _ ?_ ?_ ⟨k + 1, rfl, rfl, (Up.trans hU53 (Up.trans u70 (Up.trans u88 (Up.trans u189 (Up.trans u198 u204))))), e205, (Ext.trans (Ext.trans (Ext.trans (Ext.trans (Ext.trans hX57 he68) he86) he188) he197) he203), by omega⟩
            · omega
            · exact .cons (t := 9) rfl (.cons (t := 11) rfl (.cons (t := 53) rfl (.cons (t := 54) rfl (.cons (t := 55) rfl (.nil _)))))
          · have hjv : J q8.1.b r183 s193 = true := hjj.symm
            simp only [if_true] at hgq
            have hgb : g.b = q8.1.b := by rw [hgq]
            have hgr : g.re = r0 := by rw [hgq]
            have hgi : g.im = s0 := by rw [hgq]
            refine WL.move rfl ?_
            refine WL.move rfl ?_
            refine WL.not_ rfl ?_
            refine WL.move rfl ?_
            refine WL.gtake rfl rfl rfl ?_
            refine WL.move rfl ?_
            have hev210 : ((!false)) = true := rfl
            refine WL.pickT rfl rfl ?_
            refine WL.bne rfl rfl Try.underlying4 ?_
            refine WL.move rfl ?_
            have hev211 : (true != (J q8.1.b r183 s193)) = false := by rw [hjv]; rfl
            refine WL.gtake rfl rfl hev211 ?_
            refine WL.move rfl ?_
            refine WL.gtake rfl rfl hev211 ?_
            refine WL.move rfl ?_
            refine WL.gtake rfl rfl rfl ?_
            refine WL.fieldAddr fo26_0 rfl ?_
            refine WL.gtake rfl rfl rfl ?_
            refine WL.load sc3 rfl ((ha91.up (Up.trans u189 (Up.trans u198 u204))).cell 0 _ rfl) ?_
            refine WL.gtake rfl rfl rfl ?_
            refine WL.fieldAddr fo26_0 rfl ?_
            refine WL.gtake rfl rfl rfl ?_
            refine WL.load sc3 rfl ((ha33.up (Up.trans u40 (Up.trans u50 (Up.trans hU53 (Up.trans u70 (Up.trans u88 (Up.trans u189 (Up.trans u198 u204)))))))).cell 0 _ rfl) ?_
            refine WL.gtake rfl rfl rfl ?_
            refine WL.neq rfl rfl ?_
            refine WL.gtake rfl rfl rfl ?_
            refine WL.move rfl ?_
            have hev212 : ¬ (g.b ≠ q8.1.b) := by rw [hgb]; simp
            refine WL.gtake rfl rfl (decide_eq_false hev212) ?_
            refine WL.fieldAddr fo26_1 rfl ?_
            refine WL.gtake rfl rfl (decide_eq_false hev212) ?_
            refine WL.load sc24 rfl ((ha91.up (Up.trans u189 (Up.trans u198 u204))).cell 1 _ rfl) ?_
            refine WL.gtake rfl rfl (decide_eq_false hev212) ?_
            refine WL.fieldAddr fo26_1 rfl ?_
            refine WL.gtake rfl rfl (decide_eq_false hev212) ?_
            refine WL.load sc24 rfl ((ha33.up (Up.trans u40 (Up.trans u50 (Up.trans hU53 (Up.trans u70 (Up.trans u88 (Up.trans u189 (Up.trans u198 u204)))))))).cell 1 _ rfl) ?_
            refine WL.gtake rfl rfl (decide_eq_false hev212) ?_
            refine WL.move rfl ?_
            refine WL.gtake rfl rfl (decide_eq_false hev212) ?_
            refine WL.cadd rfl rfl (fun r213 s214 w215 hr216 hs217 he218 => ?_)
            have u219 := Ext.up he218 hm206
            have e220 := Ext.trans e205 he218
            have hm221 := Up.mb u219
            refine WL.gtake rfl rfl (decide_eq_false hev212) ?_
            refine WL.cne rfl rfl ?_
            refine WL.gtake rfl rfl rfl ?_
            refine WL.pickF (congrArg (fun b => some (Value.bool b)) (decide_eq_false hev212)) rfl ?_
            refine WL.gtake rfl rfl hev211 ?_
            refine WL.pickT rfl rfl ?_
            refine WL.pickF (congrArg (fun b => some (Value.bool b)) hev211) rfl ?_
            refine WL.move rfl ?_
            have hev222 : (!(fe g.re r213 && fe g.im s214)) = false := by rw [hgr, hgi, J_fe f1 hr216 f2 hs217 hij.symm]; rfl
            refine WL.gtake rfl rfl hev222 ?_
            refine WL.move rfl ?_
            refine WL.gtake rfl rfl hev222 ?_
            refine WL.not_ rfl ?_
            refine WL.gtake rfl rfl hev222 ?_
            refine WL.move rfl ?_
            refine WL.gskip rfl rfl rfl ?_
            refine WL.gskip rfl rfl rfl ?_
            refine WL.gskip rfl rfl rfl ?_
            refine WL.gtake rfl rfl hev222 ?_
            have hev223 : ((!true)) = false := rfl
            refine WL.pickF rfl rfl ?_
            refine WL.pickF (congrArg (fun b => some (Value.bool b)) hev222) rfl ?_
            refine WL.nil ?_
            refine CW.condF rfl ?_
            refine CW.skip ?_
            refine CW.region ?_
            refine WL.add rfl rfl (by omega) ?_
            refine WL.move rfl ?_
            refine WL.nil ?_
            refine Loop.again _ _ ?_ ?_ ⟨k + 1, rfl, rfl, (Up.trans hU53 (Up.trans u70 (Up.trans u88 (Up.trans u189 (Up.trans u198 (Up.trans u204 u219)))))), e220, (Ext.trans (Ext.trans (Ext.trans (Ext.trans (Ext.trans (Ext.trans hX57 he68) he86) he188) he197) he203) he218), by omega⟩
            · omega
            · exact .cons (t := 9) rfl (.cons (t := 11) rfl (.cons (t := 53) rfl (.cons (t := 54) rfl (.cons (t := 55) rfl (.nil _)))))
        · refine WL.gtake rfl rfl rfl ?_
          refine WL.move rfl ?_
          refine WL.gtake rfl rfl rfl ?_
          refine WL.imag rfl ?_
          refine WL.gtake rfl rfl rfl ?_
          refine WL.fne rfl rfl ?_
          refine WL.gtake rfl rfl rfl ?_
          refine WL.pickT rfl rfl ?_
          refine WL.pickF rfl rfl ?_
          refine WL.assign rfl ?_
          refine WL.nil ?_
          refine CW.seq ?_
          refine CW.region ?_
          refine WL.fieldAddr fo26_0 rfl ?_
          refine WL.load sc3 rfl ((ha33.up (Up.trans u40 (Up.trans u50 (Up.trans hU53 (Up.trans u70 u88))))).cell 0 _ rfl) ?_
          refine WL.fieldAddr fo26_1 rfl ?_
          refine WL.load sc24 rfl ((ha33.up (Up.trans u40 (Up.trans u50 (Up.trans hU53 (Up.trans u70 u88))))).cell 1 _ rfl) ?_
          refine WL.move rfl ?_
          refine WL.cadd rfl rfl (fun r224 s225 w226 hr227 hs228 he229 => ?_)
          have u230 := Ext.up he229 hm90
          have e231 := Ext.trans e89 he229
          have hm232 := Up.mb u230
          refine WL.real rfl ?_
          refine WL.fieldAddr fo26_1 rfl ?_
          refine WL.load sc24 rfl ((ha33.up (Up.trans u40 (Up.trans u50 (Up.trans hU53 (Up.trans u70 (Up.trans u88 u230)))))).cell 1 _ rfl) ?_
          refine WL.move rfl ?_
          refine WL.cadd rfl rfl (fun r233 s234 w235 hr236 hs237 he238 => ?_)
          have u239 := Ext.up he238 hm232
          have e240 := Ext.trans e231 he238
          have hm241 := Up.mb u239
          refine WL.imag rfl ?_
          refine WL.call Try.func21 rfl rfl (.cons rfl (.cons rfl (.cons rfl .nil))) (LJoin_spec _ _ hm241 q8.1.b r224 s234) (fun _ w242 hr243 => ?_)
          obtain ⟨⟨cc, rfl⟩, he244⟩ := hr243
          have u245 := Ext.up he244 hm241
          have e246 := Ext.trans e240 he244
          have hm247 := Up.mb u245
          refine WL.move rfl ?_
          refine WL.extract rfl rfl ?_
          refine WL.extract rfl rfl ?_
          refine WL.assign rfl ?_
          refine WL.assign rfl ?_
          refine WL.nil ?_
          refine CW.seq ?_
          refine CW.region ?_
          cases hg248 : !fe (vals[k].2) 0
          · obtain ⟨hql, hqe⟩ := List.getElem?_eq_some_iff.1 hq9
            obtain ⟨_, _, _, _, hfr, hfi⟩ := viet_ok hql
            rw [hqe] at hfr hfi
            have hcl : clash q8.1 (vals[k].1) (vals[k].2) = false := by simp [clash, *]
            obtain ⟨r0, s0, f1, f2, hij, hgq⟩ := ha2 hcl
            have hjj := J_same q8.1.b f1 hr227 f2 hs237
            rw [← hij] at hjj
            cases is
            · have hjv : J q8.1.b r224 s234 = false := hjj.symm
              simp only [Bool.false_eq_true, if_false, if_true] at hgq
              refine WL.move rfl ?_
              refine WL.move rfl ?_
              refine WL.not_ rfl ?_
              refine WL.move rfl ?_
              refine WL.gtake rfl rfl rfl ?_
              refine WL.move rfl ?_
              have hev249 : ((!false)) = true := rfl
              refine WL.pickT rfl rfl ?_
              refine WL.bne rfl rfl Try.underlying4 ?_
              refine WL.move rfl ?_
              have hev250 : (false != (J q8.1.b r224 s234)) = false := by rw [hjv]; rfl
              refine WL.gtake rfl rfl hev250 ?_
              refine WL.move rfl ?_
              refine WL.gtake rfl rfl hev250 ?_
              refine WL.move rfl ?_
              refine WL.gskip rfl rfl rfl ?_
              refine WL.gskip rfl rfl rfl ?_
              refine WL.gskip rfl rfl rfl ?_
              refine WL.gskip rfl rfl rfl ?_
              refine WL.gskip rfl rfl rfl ?_
              refine WL.gskip rfl rfl rfl ?_
              refine WL.uskip rfl rfl ?_
              refine WL.uskip rfl rfl ?_
              refine WL.uskip rfl rfl ?_
              refine WL.uskip rfl rfl ?_
              refine WL.uskip rfl rfl ?_
              refine WL.uskip rfl rfl ?_
              refine WL.uskip rfl rfl ?_
              refine WL.gskip rfl rfl rfl ?_
              refine WL.gtake rfl rfl hev250 ?_
              refine WL.pickF rfl rfl ?_
              refine WL.pickF (congrArg (fun b => some (Value.bool b)) hev250) rfl ?_
              refine WL.move rfl ?_
              refine WL.gtake rfl rfl rfl ?_
              refine WL.move rfl ?_
              refine WL.gtake rfl rfl rfl ?_
              refine WL.not_ rfl ?_
              refine WL.gtake rfl rfl rfl ?_
              refine WL.move rfl ?_
              refine WL.gtake rfl rfl rfl ?_
              refine WL.loadAgg (cs := [.int .i64 g.b, .complex .f64 g.re g.im]) ag26 rfl (ha91.up (Up.trans u230 (Up.trans u239 u245))) ?_
              refine WL.gtake rfl rfl rfl ?_
              refine WL.loadAgg (cs := [.int .i64 q8.1.b, .complex .f64 q8.1.re q8.1.im]) ag26 rfl (ha33.up (Up.trans u40 (Up.trans u50 (Up.trans hU53 (Up.trans u70 (Up.trans u88 (Up.trans u230 (Up.trans u239 u245)))))))) ?_
              refine WL.gtake rfl rfl rfl ?_
              refine WL.rn (nes26 rfl rfl) ?_
              refine WL.gtake rfl rfl rfl ?_
              refine WL.pickT rfl rfl ?_
              refine WL.pickF rfl rfl ?_
              refine WL.nil ?_
              have hev251 : (!(decide (g.b = q8.1.b) && (fe g.re q8.1.re && fe g.im q8.1.im))) = false := by rw [hgq]; simp [hfr, hfi]
              refine CW.condF (congrArg (fun b => some (Value.bool b)) hev251) ?_
              refine CW.skip ?_
              refine CW.region ?_
              refine WL.add rfl rfl (by omega) ?_
              refine WL.move rfl ?_
              refine WL.nil ?_
              refine Loop.again _ _ ?_ ?_ ⟨k + 1, rfl, rfl, (Up.trans hU53 (Up.trans u70 (Up.trans u88 (Up.trans u230 (Up.trans u239 u245))))), e246, (Ext.trans (Ext.trans (Ext.trans (Ext.trans (Ext.trans hX57 he68) he86) he229) he238) he244), by omega⟩
              · omega
              · exact .cons (t := 9) rfl (.cons (t := 11) rfl (.cons (t := 53) rfl (.cons (t := 54) rfl (.cons (t := 55) rfl (.nil _)))))
            · have hjv : J q8.1.b r224 s234 = true := hjj.symm
              simp only [if_true] at hgq
              have hgb : g.b = q8.1.b := by rw [hgq]
              have hgr : g.re = r0 := by rw [hgq]
              have hgi : g.im = s0 := by rw [hgq]
              refine WL.move rfl ?_
              refine WL.move rfl ?_
              refine WL.not_ rfl ?_
              refine WL.move rfl ?_
              refine WL.gtake rfl rfl rfl ?_
              refine WL.move rfl ?_
              have hev252 : ((!false)) = true := rfl
              refine WL.pickT rfl rfl ?_
              refine WL.bne rfl rfl Try.underlying4 ?_
              refine WL.move rfl ?_
              have hev253 : (true != (J q8.1.b r224 s234)) = false := by rw [hjv]; rfl
              refine WL.gtake rfl rfl hev253 ?_
              refine WL.move rfl ?_
              refine WL.gtake rfl rfl hev253 ?_
              refine WL.move rfl ?_
              refine WL.gtake rfl rfl rfl ?_
              refine WL.fieldAddr fo26_0 rfl ?_
              refine WL.gtake rfl rfl rfl ?_
              refine WL.load sc3 rfl ((ha91.up (Up.trans u230 (Up.trans u239 u245))).cell 0 _ rfl) ?_
              refine WL.gtake rfl rfl rfl ?_
              refine WL.fieldAddr fo26_0 rfl ?_
              refine WL.gtake rfl rfl rfl ?_
              refine WL.load sc3 rfl ((ha33.up (Up.trans u40 (Up.trans u50 (Up.trans hU53 (Up.trans u70 (Up.trans u88 (Up.trans u230 (Up.trans u239 u245)))))))).cell 0 _ rfl) ?_
              refine WL.gtake rfl rfl rfl ?_
              refine WL.neq rfl rfl ?_
              refine WL.gtake rfl rfl rfl ?_
              refine WL.move rfl ?_
              have hev254 : ¬ (g.b ≠ q8.1.b) := by rw [hgb]; simp
              refine WL.gtake rfl rfl (decide_eq_false hev254) ?_
              refine WL.fieldAddr fo26_1 rfl ?_
              refine WL.gtake rfl rfl (decide_eq_false hev254) ?_
              refine WL.load sc24 rfl ((ha91.up (Up.trans u230 (Up.trans u239 u245))).cell 1 _ rfl) ?_
              refine WL.gtake rfl rfl (decide_eq_false hev254) ?_
              refine WL.fieldAddr fo26_1 rfl ?_
              refine WL.gtake rfl rfl (decide_eq_false hev254) ?_
              refine WL.load sc24 rfl ((ha33.up (Up.trans u40 (Up.trans u50 (Up.trans hU53 (Up.trans u70 (Up.trans u88 (Up.trans u230 (Up.trans u239 u245)))))))).cell 1 _ rfl) ?_
              refine WL.gtake rfl rfl (decide_eq_false hev254) ?_
              refine WL.move rfl ?_
              refine WL.gtake rfl rfl (decide_eq_false hev254) ?_
              refine WL.cadd rfl rfl (fun r255 s256 w257 hr258 hs259 he260 => ?_)
              have u261 := Ext.up he260 hm247
              have e262 := Ext.trans e246 he260
              have hm263 := Up.mb u261
              refine WL.gtake rfl rfl (decide_eq_false hev254) ?_
              refine WL.cne rfl rfl ?_
              refine WL.gtake rfl rfl rfl ?_
              refine WL.pickF (congrArg (fun b => some (Value.bool b)) (decide_eq_false hev254)) rfl ?_
              refine WL.gtake rfl rfl hev253 ?_
              refine WL.pickT rfl rfl ?_
              refine WL.pickF (congrArg (fun b => some (Value.bool b)) hev253) rfl ?_
              refine WL.move rfl ?_
              have hev264 : (!(fe g.re r255 && fe g.im s256)) = false := by rw [hgr, hgi, J_fe f1 hr258 f2 hs259 hij.symm]; rfl
              refine WL.gtake rfl rfl hev264 ?_
              refine WL.move rfl ?_
              refine WL.gtake rfl rfl hev264 ?_
              refine WL.not_ rfl ?_
              refine WL.gtake rfl rfl hev264 ?_
              refine WL.move rfl ?_
              refine WL.gskip rfl rfl rfl ?_
              refine WL.gskip rfl rfl rfl ?_
              refine WL.gskip rfl rfl rfl ?_
              refine WL.gtake rfl rfl hev264 ?_
              have hev265 : ((!true)) = false := rfl
              refine WL.pickF rfl rfl ?_
              refine WL.pickF (congrArg (fun b => some (Value.bool b)) hev264) rfl ?_
              refine WL.nil ?_
              refine CW.condF rfl ?_
              refine CW.skip ?_
              refine CW.region ?_
              refine WL.add rfl rfl (by omega) ?_
              refine WL.move rfl ?_
              refine WL.nil ?_
              refine Loop.again _ _ ?_ ?_ ⟨k + 1, rfl, rfl, (Up.trans hU53 (Up.trans u70 (Up.trans u88 (Up.trans u230 (Up.trans u239 (Up.trans u245 u261)))))), e262, (Ext.trans (Ext.trans (Ext.trans (Ext.trans (Ext.trans (Ext.trans hX57 he68) he86) he229) he238) he244) he260), by omega⟩
              · omega
              · exact .cons (t := 9) rfl (.cons (t := 11) rfl (.cons (t := 53) rfl (.cons (t := 54) rfl (.cons (t := 55) rfl (.nil _)))))
          · obtain ⟨hql, hqe⟩ := List.getElem?_eq_some_iff.1 hq9
            obtain ⟨_, _, _, _, hfr, hfi⟩ := viet_ok hql
            rw [hqe] at hfr hfi
            have hcl : clash q8.1 (vals[k].1) (vals[k].2) = true := by simp [clash, *]
            obtain ⟨rfl, hgq⟩ := ha1 hcl
            refine WL.move rfl ?_
            refine WL.move rfl ?_
            refine WL.not_ rfl ?_
            refine WL.move rfl ?_
            refine WL.gskip rfl rfl rfl ?_
            have hev266 : ((!true)) = false := rfl
            refine WL.pickF rfl rfl ?_
            refine WL.bne rfl rfl Try.underlying4 ?_
            refine WL.move rfl ?_
            have hev267 : (false != false) = false := rfl
            refine WL.gtake rfl rfl hev267 ?_
            refine WL.move rfl ?_
            refine WL.gtake rfl rfl hev267 ?_
            refine WL.move rfl ?_
            refine WL.gskip rfl rfl rfl ?_
            refine WL.gskip rfl rfl rfl ?_
            refine WL.gskip rfl rfl rfl ?_
            refine WL.gskip rfl rfl rfl ?_
            refine WL.gskip rfl rfl rfl ?_
            refine WL.gskip rfl rfl rfl ?_
            refine WL.uskip rfl rfl ?_
            refine WL.uskip rfl rfl ?_
            refine WL.uskip rfl rfl ?_
            refine WL.uskip rfl rfl ?_
            refine WL.uskip rfl rfl ?_
            refine WL.uskip rfl rfl ?_
            refine WL.uskip rfl rfl ?_
            refine WL.gskip rfl rfl rfl ?_
            refine WL.gtake rfl rfl hev267 ?_
            refine WL.pickF rfl rfl ?_
            refine WL.pickF (congrArg (fun b => some (Value.bool b)) hev267) rfl ?_
            refine WL.move rfl ?_
            refine WL.gtake rfl rfl rfl ?_
            refine WL.move rfl ?_
            refine WL.gtake rfl rfl rfl ?_
            refine WL.not_ rfl ?_
            refine WL.gtake rfl rfl rfl ?_
            refine WL.move rfl ?_
            refine WL.gtake rfl rfl rfl ?_
            refine WL.loadAgg (cs := [.int .i64 g.b, .complex .f64 g.re g.im]) ag26 rfl (ha91.up (Up.trans u230 (Up.trans u239 u245))) ?_
            refine WL.gtake rfl rfl rfl ?_
            refine WL.loadAgg (cs := [.int .i64 q8.1.b, .complex .f64 q8.1.re q8.1.im]) ag26 rfl (ha33.up (Up.trans u40 (Up.trans u50 (Up.trans hU53 (Up.trans u70 (Up.trans u88 (Up.trans u230 (Up.trans u239 u245)))))))) ?_
            refine WL.gtake rfl rfl rfl ?_
            refine WL.rn (nes26 rfl rfl) ?_
            refine WL.gtake rfl rfl rfl ?_
            have hev268 : ((!false)) = true := rfl
            refine WL.pickT rfl rfl ?_
            refine WL.pickF rfl rfl ?_
            refine WL.nil ?_
            have hev269 : (!(decide (g.b = q8.1.b) && (fe g.re q8.1.re && fe g.im q8.1.im))) = false := by rw [hgq]; simp [hfr, hfi]
            refine CW.condF (congrArg (fun b => some (Value.bool b)) hev269) ?_
            refine CW.skip ?_
            refine CW.region ?_
            refine WL.add rfl rfl (by omega) ?_
            refine WL.move rfl ?_
            refine WL.nil ?_
            refine Loop.again _ _ ?_ ?_ ⟨k + 1, rfl, rfl, (Up.trans hU53 (Up.trans u70 (Up.trans u88 (Up.trans u230 (Up.trans u239 u245))))), e246, (Ext.trans (Ext.trans (Ext.trans (Ext.trans (Ext.trans hX57 he68) he86) he229) he238) he244), by omega⟩
            · omega
            · exact .cons (t := 9) rfl (.cons (t := 11) rfl (.cons (t := 53) rfl (.cons (t := 54) rfl (.cons (t := 55) rfl (.nil _)))))
      · refine WL.gskip rfl rfl rfl ?_
        refine WL.gskip rfl rfl rfl ?_
        refine WL.gskip rfl rfl rfl ?_
        refine WL.gskip rfl rfl rfl ?_
        refine WL.gskip rfl rfl rfl ?_
        refine WL.uskip rfl rfl ?_
        refine WL.uskip rfl rfl ?_
        refine WL.uskip rfl rfl ?_
        refine WL.gskip rfl rfl rfl ?_
        refine WL.pickT rfl rfl ?_
        refine WL.assign rfl ?_
        refine WL.nil ?_
        refine CW.seq ?_
        refine CW.region ?_
        refine WL.fieldAddr fo26_0 rfl ?_
        refine WL.load sc3 rfl ((ha33.up (Up.trans u40 (Up.trans u50 (Up.trans hU53 (Up.trans u70 u88))))).cell 0 _ rfl) ?_
        refine WL.fieldAddr fo26_1 rfl ?_
        refine WL.load sc24 rfl ((ha33.up (Up.trans u40 (Up.trans u50 (Up.trans hU53 (Up.trans u70 u88))))).cell 1 _ rfl) ?_
        refine WL.move rfl ?_
        refine WL.cadd rfl rfl (fun r270 s271 w272 hr273 hs274 he275 => ?_)
        have u276 := Ext.up he275 hm90
        have e277 := Ext.trans e89 he275
        have hm278 := Up.mb u276
        refine WL.real rfl ?_
        refine WL.fieldAddr fo26_1 rfl ?_
        refine WL.load sc24 rfl ((ha33.up (Up.trans u40 (Up.trans u50 (Up.trans hU53 (Up.trans u70 (Up.trans u88 u276)))))).cell 1 _ rfl) ?_
        refine WL.move rfl ?_
        refine WL.cadd rfl rfl (fun r279 s280 w281 hr282 hs283 he284 => ?_)
        have u285 := Ext.up he284 hm278
        have e286 := Ext.trans e277 he284
        have hm287 := Up.mb u285
        refine WL.imag rfl ?_
        refine WL.call Try.func21 rfl rfl (.cons rfl (.cons rfl (.cons rfl .nil))) (LJoin_spec _ _ hm287 q8.1.b r270 s280) (fun _ w288 hr289 => ?_)
        obtain ⟨⟨cc, rfl⟩, he290⟩ := hr289
        have u291 := Ext.up he290 hm287
        have e292 := Ext.trans e286 he290
        have hm293 := Up.mb u291
        refine WL.move rfl ?_
        refine WL.extract rfl rfl ?_
        refine WL.extract rfl rfl ?_
        refine WL.assign rfl ?_
        refine WL.assign rfl ?_
        refine WL.nil ?_
        refine CW.seq ?_
        refine CW.region ?_
        obtain ⟨hql, hqe⟩ := List.getElem?_eq_some_iff.1 hq9
        obtain ⟨_, _, _, _, hfr, hfi⟩ := viet_ok hql
        rw [hqe] at hfr hfi
        have hcl : clash q8.1 (vals[k].1) (vals[k].2) = true := by simp [clash, *]
        obtain ⟨rfl, hgq⟩ := ha1 hcl
        refine WL.move rfl ?_
        refine WL.move rfl ?_
        refine WL.not_ rfl ?_
        refine WL.move rfl ?_
        refine WL.gskip rfl rfl rfl ?_
        have hev294 : ((!true)) = false := rfl
        refine WL.pickF rfl rfl ?_
        refine WL.bne rfl rfl Try.underlying4 ?_
        refine WL.move rfl ?_
        have hev295 : (false != false) = false := rfl
        refine WL.gtake rfl rfl hev295 ?_
        refine WL.move rfl ?_
        refine WL.gtake rfl rfl hev295 ?_
        refine WL.move rfl ?_
        refine WL.gskip rfl rfl rfl ?_
        refine WL.gskip rfl rfl rfl ?_
        refine WL.gskip rfl rfl rfl ?_
        refine WL.gskip rfl rfl rfl ?_
        refine WL.gskip rfl rfl rfl ?_
        refine WL.gskip rfl rfl rfl ?_
        refine WL.uskip rfl rfl ?_
        refine WL.uskip rfl rfl ?_
        refine WL.uskip rfl rfl ?_
        refine WL.uskip rfl rfl ?_
        refine WL.uskip rfl rfl ?_
        refine WL.uskip rfl rfl ?_
        refine WL.uskip rfl rfl ?_
        refine WL.gskip rfl rfl rfl ?_
        refine WL.gtake rfl rfl hev295 ?_
        refine WL.pickF rfl rfl ?_
        refine WL.pickF (congrArg (fun b => some (Value.bool b)) hev295) rfl ?_
        refine WL.move rfl ?_
        refine WL.gtake rfl rfl rfl ?_
        refine WL.move rfl ?_
        refine WL.gtake rfl rfl rfl ?_
        refine WL.not_ rfl ?_
        refine WL.gtake rfl rfl rfl ?_
        refine WL.move rfl ?_
        refine WL.gtake rfl rfl rfl ?_
        refine WL.loadAgg (cs := [.int .i64 g.b, .complex .f64 g.re g.im]) ag26 rfl (ha91.up (Up.trans u276 (Up.trans u285 u291))) ?_
        refine WL.gtake rfl rfl rfl ?_
        refine WL.loadAgg (cs := [.int .i64 q8.1.b, .complex .f64 q8.1.re q8.1.im]) ag26 rfl (ha33.up (Up.trans u40 (Up.trans u50 (Up.trans hU53 (Up.trans u70 (Up.trans u88 (Up.trans u276 (Up.trans u285 u291)))))))) ?_
        refine WL.gtake rfl rfl rfl ?_
        refine WL.rn (nes26 rfl rfl) ?_
        refine WL.gtake rfl rfl rfl ?_
        have hev296 : ((!false)) = true := rfl
        refine WL.pickT rfl rfl ?_
        refine WL.pickF rfl rfl ?_
        refine WL.nil ?_
        have hev297 : (!(decide (g.b = q8.1.b) && (fe g.re q8.1.re && fe g.im q8.1.im))) = false := by rw [hgq]; simp [hfr, hfi]
        refine CW.condF (congrArg (fun b => some (Value.bool b)) hev297) ?_
        refine CW.skip ?_
        refine CW.region ?_
        refine WL.add rfl rfl (by omega) ?_
        refine WL.move rfl ?_
        refine WL.nil ?_
        refine Loop.again _ _ ?_ ?_ ⟨k + 1, rfl, rfl, (Up.trans hU53 (Up.trans u70 (Up.trans u88 (Up.trans u276 (Up.trans u285 u291))))), e292, (Ext.trans (Ext.trans (Ext.trans (Ext.trans (Ext.trans hX57 he68) he86) he275) he284) he290), by omega⟩
        · omega
        · exact .cons (t := 9) rfl (.cons (t := 11) rfl (.cons (t := 53) rfl (.cons (t := 54) rfl (.cons (t := 55) rfl (.nil _)))))
  · refine CW.exit ?_
    refine CW.seq ?_
    refine CW.region ?_
    refine WL.move rfl ?_
    refine WL.assign rfl ?_
    refine WL.nil ?_
    refine CW.ret ?_
    refine Ret.one rfl rfl ?_
    exact ⟨rfl, hE54⟩
end Go.Proofs.Ytgbajkdomcmblaa
