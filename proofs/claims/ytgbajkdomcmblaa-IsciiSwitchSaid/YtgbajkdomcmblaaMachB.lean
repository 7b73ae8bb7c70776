/- What the functions of package rule come to: walks. -/
import Derived.Test.YtgbajkdomcmblaaMachA
namespace Go.Proofs.Ytgbajkdomcmblaa
open Go Go.RowKit Vc
set_option linter.unusedVariables false
set_option linter.unusedSimpArgs false
private theorem mixed : Try.prog.follows .mixedOrders = true := by kernel_rfl
private theorem take_eq_succ {xs ys : List Int} {k : Nat} (h : xs.take k = ys.take k) (h1 : k < xs.length) (h2 : k < ys.length) (he : xs[k] = ys[k]) : xs.take (k + 1) = ys.take (k + 1) := by
  rw [List.take_succ_eq_append_getElem h1, List.take_succ_eq_append_getElem h2, h, he]
private theorem fo100_0 : fieldOff Try.prog 100 0 = some 0 := by kernel_rfl
private theorem fo100_1 : fieldOff Try.prog 100 1 = some 1 := by kernel_rfl
private theorem es29 : elemSize Try.prog 29 = some 1 := by kernel_rfl
private theorem es49 : elemSize Try.prog 49 = some 2 := by kernel_rfl
private theorem sc3 : scalar Try.prog 3 = true := by kernel_rfl
private theorem sc29 : scalar Try.prog 29 = true := by kernel_rfl
private theorem ag100 : aggSize Try.prog 100 = some 2 := by kernel_rfl
private theorem ti3 : tinfo Try.prog 3 = some (some (.int .i64 0), 1, 8) := by kernel_rfl
private theorem ti100 : tinfo Try.prog 100 = some (some (.agg #[.slice none 0 0, .slice none 0 0]), 2, 48) := by kernel_rfl
theorem side1_spec (w : World) (M : MS) (hm : MB w M) (u : Int) :
    Fc Try.prog 114 #[.int .i64 u] w fun v w' => v = .bool (!okU u) ∧ Ext w w' := by
  have e0 := Stp.refl w (fun _ => False)
  refine Fc.enter (n := 9) [(0, .int .i64 u)] Try.func114 rfl rfl (Nat.le_of_ble_eq_true rfl) (.cons rfl (.nil _)) ?_
  refine CW.seq ?_
  refine CW.region ?_
  refine WL.assign rfl ?_
  refine WL.nil ?_
  refine CW.seq ?_
  refine CW.region ?_
  refine WL.move rfl ?_
  refine WL.lss rfl rfl ?_
  refine WL.move rfl ?_
  by_cases hg1 : u < 0
  · refine WL.gskip rfl rfl (decide_eq_true hg1) ?_
    refine WL.gskip rfl rfl (decide_eq_true hg1) ?_
    refine WL.pickT (congrArg (fun b => some (Value.bool b)) (decide_eq_true hg1)) rfl ?_
    refine WL.assign rfl ?_
    refine WL.nil ?_
    refine CW.ret ?_
    refine Ret.one rfl rfl ?_
    refine ⟨?_, e0⟩
    by_cases h1 : 0 ≤ u <;> by_cases h2 : u ≤ 1114111 <;> simp [okU, h1, h2] <;> omega
  · refine WL.gtake rfl rfl (decide_eq_false hg1) ?_
    refine WL.move rfl ?_
    refine WL.gtake rfl rfl (decide_eq_false hg1) ?_
    refine WL.gtr rfl rfl ?_
    refine WL.pickF (congrArg (fun b => some (Value.bool b)) (decide_eq_false hg1)) rfl ?_
    refine WL.assign rfl ?_
    refine WL.nil ?_
    refine CW.ret ?_
    refine Ret.one rfl rfl ?_
    refine ⟨?_, e0⟩
    by_cases h1 : 0 ≤ u <;> by_cases h2 : u ≤ 1114111 <;> simp [okU, h1, h2] <;> omega

theorem indexInt_spec (w : World) (M : MS) (hm : MB w M) {Ap1 : Option Addr} {cp1 : Nat} {xs : List Int} (h1 : SlD IntR 1 w M Ap1 cp1 xs) :
    Fc Try.prog 118 #[.slice Ap1 xs.length cp1, .func (.func 114) #[] #[]] w fun v w' => (∃ r, v = .int .i64 r ∧ decide (0 ≤ r) = !xs.all okU) ∧ Ext w w' := by
  have e0 := Stp.refl w (fun _ => False)
  have hlim := h1.lim
  refine Fc.enter (n := 19) [(0, .slice Ap1 xs.length cp1), (1, .func (.func 114) #[] #[])] Try.func118 rfl rfl (Nat.le_of_ble_eq_true rfl) (.cons rfl (.cons rfl (.nil _))) ?_
  refine CW.seq ?_
  refine CW.region ?_
  refine WL.assign rfl ?_
  refine WL.nil ?_
  refine CW.seq ?_
  refine CW.seq ?_
  refine CW.region ?_
  refine WL.move rfl ?_
  refine WL.len Try.underlying29 rfl ?_
  refine WL.move rfl ?_
  refine WL.nil ?_
  refine CW.block ?_
  refine CW.loop (fun m σ wr0 => ∃ k : Nat, m = xs.length - k ∧ σ = [(0, .slice Ap1 xs.length cp1), (1, .func (.func 114) #[] #[]), (7, .int .i64 (xs.length : Int)), (8, .int .i64 (k : Int))] ∧ (Up w M wr0 M) ∧ (Ext w wr0) ∧ (Ext w wr0) ∧ (k ≤ xs.length) ∧ ((xs.take k).all okU = true)) _ _ (.cons (t := 0) rfl (.cons (t := 1) rfl (.cons (t := 7) rfl (.cons (t := 8) rfl (.nil _))))) ⟨0, rfl, rfl, Up.refl hm, e0, Stp.refl _ _, by omega, by simp⟩ ?_
  rintro m _ wr0 ⟨k, rfl, rfl, hU1, hE2, hX5, hk, hf⟩
  have hm3 := Up.mb hU1
  refine CW.seq ?_
  refine CW.region ?_
  refine WL.lss rfl rfl ?_
  refine WL.nil ?_
  refine CW.seq ?_
  refine CW.condP rfl (fun hc7 => ?_) (fun hc7 => ?_)
  · refine CW.skip ?_
    refine CW.seq ?_
    refine CW.block ?_
    refine CW.seq ?_
    refine CW.region ?_
    refine WL.move rfl ?_
    refine WL.assign rfl ?_
    refine WL.nil ?_
    refine CW.seq ?_
    refine CW.region ?_
    refine WL.move rfl ?_
    refine WL.move rfl ?_
    refine WL.move rfl ?_
    have hlt8 : k < xs.length := by omega
    obtain ⟨ad9, cs10, hA11, hs12, hat13, hR14⟩ := SlD.get (h1.up hU1) (List.getElem?_eq_getElem hlt8)
    rw [show _ = _ from hR14.1] at hat13
    have hhR14 := hR14.2; simp only [I64] at hhR14
    refine WL.idx es29 rfl rfl hA11 (by omega) (by omega) ?_
    refine WL.load sc3 rfl (hat13.cell 0 _ rfl) ?_
    refine WL.callv rfl Try.func114 rfl rfl (.cons rfl (.nil)) (side1_spec _ _ hm3 (xs[k])) (fun _ w15 hr16 => ?_)
    obtain ⟨rfl, he17⟩ := hr16
    have u18 := Ext.up he17 hm3
    have e19 := Ext.trans hE2 he17
    have hm20 := Up.mb u18
    refine WL.nil ?_
    refine CW.condB rfl (fun hc21 => ?_) (fun hc21 => ?_)
    · refine CW.seq ?_
      refine CW.region ?_
      refine WL.move rfl ?_
      refine WL.assign rfl ?_
      refine WL.nil ?_
      refine CW.ret ?_
      refine Ret.one rfl rfl ?_
      exact ⟨⟨_, rfl, by rw [all_bad (l := xs) (i := k) (by omega) (by simpa using hc21)]; simp⟩, e19⟩
    · refine CW.skip ?_
      refine CW.region ?_
      refine WL.add rfl rfl (by omega) ?_
      refine WL.move rfl ?_
      refine WL.nil ?_
      refine Loop.again _ _ ?_ ?_ ⟨k + 1, rfl, rfl, (Up.trans hU1 u18), e19, (Ext.trans hX5 he17), by omega, all_next (by omega) hf (by simpa using hc21)⟩
      · omega
      · exact .cons (t := 0) rfl (.cons (t := 1) rfl (.cons (t := 7) rfl (.cons (t := 8) rfl (.nil _))))
  · refine CW.exit ?_
    refine CW.seq ?_
    refine CW.region ?_
    refine WL.assign rfl ?_
    refine WL.nil ?_
    refine CW.ret ?_
    refine Ret.one rfl rfl ?_
    exact ⟨⟨_, rfl, by rw [all_end (by omega) hf]; simp⟩, hE2⟩

theorem containsInt_spec (w : World) (M : MS) (hm : MB w M) {Ap1 : Option Addr} {cp1 : Nat} {xs : List Int} (h1 : SlD IntR 1 w M Ap1 cp1 xs) :
    Fc Try.prog 113 #[.slice Ap1 xs.length cp1, .func (.func 114) #[] #[]] w fun v w' => v = .bool (!xs.all okU) ∧ Ext w w' := by
  have e0 := Stp.refl w (fun _ => False)
  have hlim := h1.lim
  refine Fc.enter (n := 9) [(0, .slice Ap1 xs.length cp1), (1, .func (.func 114) #[] #[])] Try.func113 rfl rfl (Nat.le_of_ble_eq_true rfl) (.cons rfl (.cons rfl (.nil _))) ?_
  refine CW.seq ?_
  refine CW.region ?_
  refine WL.assign rfl ?_
  refine WL.nil ?_
  refine CW.seq ?_
  refine CW.region ?_
  refine WL.move rfl ?_
  refine WL.move rfl ?_
  refine WL.call Try.func118 rfl rfl (.cons rfl (.cons rfl (.nil))) (indexInt_spec _ _ hm h1) (fun _ w1 hr2 => ?_)
  obtain ⟨⟨r, rfl, hr_⟩, he3⟩ := hr2
  have u4 := Ext.up he3 hm
  have e5 := Ext.trans e0 he3
  have hm6 := Up.mb u4
  refine WL.geq rfl rfl ?_
  refine WL.assign rfl ?_
  refine WL.nil ?_
  refine CW.ret ?_
  refine Ret.one rfl rfl ?_
  exact ⟨congrArg Value.bool hr_, e5⟩

theorem side_spec (w : World) (M : MS) (hm : MB w M) {Ap1 : Option Addr} {cp1 : Nat} {xs : List Int} (h1 : SlD IntR 1 w M Ap1 cp1 xs) :
    Fc Try.prog 101 #[.slice Ap1 xs.length cp1] w fun v w' => v = .bool (mayP xs) ∧ Ext w w' := by
  have e0 := Stp.refl w (fun _ => False)
  have hlim := h1.lim
  refine Fc.enter (n := 16) [(0, .slice Ap1 xs.length cp1)] Try.func101 rfl rfl (Nat.le_of_ble_eq_true rfl) (.cons rfl (.nil _)) ?_
  refine CW.seq ?_
  refine CW.region ?_
  refine WL.assign rfl ?_
  refine WL.nil ?_
  refine CW.seq ?_
  refine CW.region ?_
  refine WL.move rfl ?_
  refine WL.len Try.underlying29 rfl ?_
  refine WL.gtr rfl rfl ?_
  refine WL.move rfl ?_
  by_cases hg1 : 0 < (xs.length : Int)
  · refine WL.gtake rfl rfl (decide_eq_true hg1) ?_
    refine WL.move rfl ?_
    refine WL.gtake rfl rfl (decide_eq_true hg1) ?_
    refine WL.len Try.underlying29 rfl ?_
    refine WL.gtake rfl rfl (decide_eq_true hg1) ?_
    refine WL.leq rfl rfl ?_
    refine WL.pickT (congrArg (fun b => some (Value.bool b)) (decide_eq_true hg1)) rfl ?_
    refine WL.move rfl ?_
    by_cases hg2 : (xs.length : Int) ≤ 8
    · refine WL.gtake rfl rfl (decide_eq_true hg2) ?_
      refine WL.move rfl ?_
      refine WL.gtake rfl rfl (decide_eq_true hg2) ?_
      refine WL.call Try.func113 rfl rfl (.cons rfl (.cons rfl (.nil))) (containsInt_spec _ _ hm h1) (fun _ w3 hr4 => ?_)
      obtain ⟨rfl, he5⟩ := hr4
      have u6 := Ext.up he5 hm
      have e7 := Ext.trans e0 he5
      have hm8 := Up.mb u6
      refine WL.gtake rfl rfl (decide_eq_true hg2) ?_
      refine WL.not_ rfl ?_
      refine WL.pickT (congrArg (fun b => some (Value.bool b)) (decide_eq_true hg2)) rfl ?_
      refine WL.assign rfl ?_
      refine WL.nil ?_
      refine CW.ret ?_
      refine Ret.one rfl rfl ?_
      refine ⟨?_, e7⟩
      by_cases h9 : xs.length < 9 <;> by_cases h0 : 0 < xs.length <;> simp [mayP, h9, h0] <;> omega
    · refine WL.gskip rfl rfl (decide_eq_false hg2) ?_
      refine WL.gskip rfl rfl (decide_eq_false hg2) ?_
      refine WL.gskip rfl rfl (decide_eq_false hg2) ?_
      refine WL.pickF (congrArg (fun b => some (Value.bool b)) (decide_eq_false hg2)) rfl ?_
      refine WL.assign rfl ?_
      refine WL.nil ?_
      refine CW.ret ?_
      refine Ret.one rfl rfl ?_
      refine ⟨?_, e0⟩
      by_cases h9 : xs.length < 9 <;> by_cases h0 : 0 < xs.length <;> simp [mayP, h9, h0] <;> omega
  · refine WL.gskip rfl rfl (decide_eq_false hg1) ?_
    refine WL.gskip rfl rfl (decide_eq_false hg1) ?_
    refine WL.gskip rfl rfl (decide_eq_false hg1) ?_
    refine WL.pickF (congrArg (fun b => some (Value.bool b)) (decide_eq_false hg1)) rfl ?_
    refine WL.move rfl ?_
    refine WL.gskip rfl rfl rfl ?_
    refine WL.gskip rfl rfl rfl ?_
    refine WL.gskip rfl rfl rfl ?_
    refine WL.pickF rfl rfl ?_
    refine WL.assign rfl ?_
    refine WL.nil ?_
    refine CW.ret ?_
    refine Ret.one rfl rfl ?_
    refine ⟨?_, e0⟩
    by_cases h9 : xs.length < 9 <;> by_cases h0 : 0 < xs.length <;> simp [mayP, h9, h0] <;> omega

theorem Equal_spec (w : World) (M : MS) (hm : MB w M) {Ap1 : Option Addr} {cp1 : Nat} {xs : List Int} (h1 : SlD IntR 1 w M Ap1 cp1 xs) {Ap2 : Option Addr} {cp2 : Nat} {ys : List Int} (h2 : SlD IntR 1 w M Ap2 cp2 ys) :
    Fc Try.prog 104 #[.slice Ap1 xs.length cp1, .slice Ap2 ys.length cp2] w fun v w' => v = .bool (decide (xs = ys)) ∧ Ext w w' := by
  have e0 := Stp.refl w (fun _ => False)
  have hlim := h1.lim
  refine Fc.enter (n := 26) [(0, .slice Ap1 xs.length cp1), (1, .slice Ap2 ys.length cp2)] Try.func104 rfl rfl (Nat.le_of_ble_eq_true rfl) (.cons rfl (.cons rfl (.nil _))) ?_
  refine CW.seq ?_
  refine CW.region ?_
  refine WL.assign rfl ?_
  refine WL.nil ?_
  refine CW.seq ?_
  refine CW.seq ?_
  refine CW.region ?_
  refine WL.move rfl ?_
  refine WL.len Try.underlying29 rfl ?_
  refine WL.move rfl ?_
  refine WL.len Try.underlying29 rfl ?_
  refine WL.neq rfl rfl ?_
  refine WL.nil ?_
  refine CW.condP rfl (fun hc1 => ?_) (fun hc1 => ?_)
  · refine CW.seq ?_
    refine CW.region ?_
    refine WL.assign rfl ?_
    refine WL.nil ?_
    refine CW.ret ?_
    refine Ret.one rfl rfl ?_
    refine ⟨?_, e0⟩
    have : xs ≠ ys := fun e => hc1 (by rw [e])
    simp [this]
  · have hle : xs.length = ys.length := by omega
    refine CW.skip ?_
    refine CW.seq ?_
    refine CW.seq ?_
    refine CW.region ?_
    refine WL.move rfl ?_
    refine WL.len Try.underlying29 rfl ?_
    refine WL.move rfl ?_
    refine WL.nil ?_
    refine CW.block ?_
    refine CW.loop (fun m σ wr0 => ∃ k : Nat, m = xs.length - k ∧ σ = [(0, .slice Ap1 xs.length cp1), (1, .slice Ap2 ys.length cp2), (12, .int .i64 (xs.length : Int)), (13, .int .i64 (k : Int))] ∧ (Up w M wr0 M) ∧ (Ext w wr0) ∧ (Ext w wr0) ∧ (k ≤ xs.length) ∧ (xs.take k = ys.take k)) _ _ (.cons (t := 0) rfl (.cons (t := 1) rfl (.cons (t := 12) rfl (.cons (t := 13) rfl (.nil _))))) ⟨0, rfl, rfl, Up.refl hm, e0, Stp.refl _ _, by omega, by simp⟩ ?_
    rintro m _ wr0 ⟨k, rfl, rfl, hU2, hE3, hX6, hk, htk⟩
    have hm4 := Up.mb hU2
    refine CW.seq ?_
    refine CW.region ?_
    refine WL.lss rfl rfl ?_
    refine WL.nil ?_
    refine CW.seq ?_
    refine CW.condP rfl (fun hc8 => ?_) (fun hc8 => ?_)
    · refine CW.skip ?_
      refine CW.seq ?_
      refine CW.block ?_
      refine CW.seq ?_
      refine CW.region ?_
      refine WL.move rfl ?_
      refine WL.assign rfl ?_
      refine WL.nil ?_
      refine CW.seq ?_
      refine CW.drawn [] (fun w1 w' => w' = w1) mixed (fun w9 ed10 hh11 => ?_)
      have u12 := Ext.up ed10 hm4
      have e13 := Ext.trans hE3 ed10
      have hm14 := Up.mb u12
      refine DW.t 0 rfl (by kernel_rfl) (fun _ _ _ h => h) (by rintro _ rfl; exact Rn.move rfl) ?_
      refine DW.t 1 rfl (by kernel_rfl) (fun _ _ _ h => h) (by rintro _ rfl; exact Rn.move rfl) ?_
      have hlt15 : k < xs.length := by omega
      obtain ⟨ad16, cs17, hA18, hs19, hat20, hR21⟩ := SlD.get (h1.up (Up.trans hU2 u12)) (List.getElem?_eq_getElem hlt15)
      rw [show _ = _ from hR21.1] at hat20
      have hhR21 := hR21.2; simp only [I64] at hhR21
      refine DW.t 2 rfl (by kernel_rfl) (fun _ _ _ h => h) (by rintro _ rfl; exact Rn.idx es29 rfl rfl hA18 (by omega) (by omega)) ?_
      refine DW.t 3 rfl (by kernel_rfl) (fun _ _ _ h => h) (by rintro _ rfl; exact Rn.load sc3 rfl (hat20.cell 0 _ rfl)) ?_
      refine DW.t 4 rfl (by kernel_rfl) (fun _ _ _ h => h) (by rintro _ rfl; exact Rn.move rfl) ?_
      refine DW.t 5 rfl (by kernel_rfl) (fun _ _ _ h => h) (by rintro _ rfl; exact Rn.move rfl) ?_
      have hlt22 : k < ys.length := by omega
      obtain ⟨ad23, cs24, hA25, hs26, hat27, hR28⟩ := SlD.get (h2.up (Up.trans hU2 u12)) (List.getElem?_eq_getElem hlt22)
      rw [show _ = _ from hR28.1] at hat27
      have hhR28 := hR28.2; simp only [I64] at hhR28
      refine DW.t 6 rfl (by kernel_rfl) (fun _ _ _ h => h) (by rintro _ rfl; exact Rn.idx es29 rfl rfl hA25 (by omega) (by omega)) ?_
      refine DW.t 7 rfl (by kernel_rfl) (fun _ _ _ h => h) (by rintro _ rfl; exact Rn.load sc3 rfl (hat27.cell 0 _ rfl)) ?_
      refine DW.t 8 rfl (by kernel_rfl) (fun _ _ _ h => h) (by rintro _ rfl; exact Rn.neq rfl rfl) ?_
      refine DW.done (by kernel_rfl) (fun _ => rfl) ?_
      refine CW.condP rfl (fun hc29 => ?_) (fun hc29 => ?_)
      · refine CW.seq ?_
        refine CW.region ?_
        refine WL.assign rfl ?_
        refine WL.nil ?_
        refine CW.ret ?_
        refine Ret.one rfl rfl ?_
        refine ⟨?_, e13⟩
        exact congrArg Value.bool (decide_eq_false (fun e => hc29 (by simp only [e]))).symm
      · refine CW.skip ?_
        refine CW.region ?_
        refine WL.add rfl rfl (by omega) ?_
        refine WL.move rfl ?_
        refine WL.nil ?_
        refine Loop.again _ _ ?_ ?_ ⟨k + 1, rfl, rfl, (Up.trans hU2 u12), e13, (Ext.trans hX6 ed10), by omega, take_eq_succ htk (by omega) (by omega) (Classical.not_not.1 hc29)⟩
        · omega
        · exact .cons (t := 0) rfl (.cons (t := 1) rfl (.cons (t := 12) rfl (.cons (t := 13) rfl (.nil _))))
    · refine CW.exit ?_
      refine CW.seq ?_
      refine CW.region ?_
      refine WL.assign rfl ?_
      refine WL.nil ?_
      refine CW.ret ?_
      refine Ret.one rfl rfl ?_
      refine ⟨?_, hE3⟩
      have : xs = ys := by
        have h3 : k = xs.length := by omega
        rw [h3, List.take_length, hle, List.take_length] at htk
        exact htk
      simp [this]

theorem find1_spec (w : World) (M : MS) (hm : MB w M) {Ap1 : Option Addr} {cp1 : Nat} {xs : List Int} (h1 : SlD IntR 1 w M Ap1 cp1 xs) {Ap3 : Option Addr} {cp3 : Nat} {ys : List Int} (h3 : SlD IntR 1 w M Ap3 cp3 ys) {g : Nat} {Ap2 : Option Addr} {cp2 : Nat} {us : List Int} (hp : At w M ⟨g, 0, none⟩ [.slice Ap2 us.length cp2]) (h2 : SlD IntR 1 w M Ap2 cp2 us) :
    Fc Try.prog 103 #[.agg #[.slice Ap1 xs.length cp1, .slice Ap3 ys.length cp3], .pointer (some ⟨g, 0, none⟩)] w fun v w' => v = .bool (decide (xs = us)) ∧ Ext w w' := by
  have e0 := Stp.refl w (fun _ => False)
  refine Fc.enter (n := 8) [(0, .agg #[.slice Ap1 xs.length cp1, .slice Ap3 ys.length cp3]), (1, .pointer (some ⟨g, 0, none⟩))] Try.func103 rfl rfl (Nat.le_of_ble_eq_true rfl) (.cons rfl (.cons rfl (.nil _))) ?_
  refine CW.seq ?_
  refine CW.region ?_
  refine WL.box (cs := [.slice Ap1 xs.length cp1, .slice Ap3 ys.length cp3]) rfl rfl (fun g1 w2 hg3 hb4 he5 => ?_)
  have hn6 := MB.fresh hm hg3
  have u7 := Ext.up he5 hm
  have e8 := Ext.trans e0 he5
  have hm9 := Up.mb u7
  have ha10 := Bk.at_ hb4 hn6
  refine WL.assign rfl ?_
  refine WL.nil ?_
  refine CW.seq ?_
  refine CW.region ?_
  refine WL.fieldAddr fo100_0 rfl ?_
  refine WL.load sc29 rfl (ha10.cell 0 _ rfl) ?_
  refine WL.load sc29 rfl ((hp.up u7).cell 0 _ rfl) ?_
  refine WL.call Try.func104 rfl rfl (.cons rfl (.cons rfl (.nil))) (Equal_spec _ _ hm9 (h1.up u7) (h2.up u7)) (fun _ w11 hr12 => ?_)
  obtain ⟨rfl, he13⟩ := hr12
  have u14 := Ext.up he13 hm9
  have e15 := Ext.trans e8 he13
  have hm16 := Up.mb u14
  refine WL.assign rfl ?_
  refine WL.nil ?_
  refine CW.ret ?_
  refine Ret.one rfl rfl ?_
  exact ⟨rfl, e15⟩

theorem indexRule_spec (w : World) (M : MS) (hm : MB w M) {Ap1 : Option Addr} {cp1 : Nat} {rs : List PRule} (h1 : SlD RuleR 2 w M Ap1 cp1 rs) {g : Nat} {Ap2 : Option Addr} {cp2 : Nat} {us : List Int} (hp : At w M ⟨g, 0, none⟩ [.slice Ap2 us.length cp2]) (h2 : SlD IntR 1 w M Ap2 cp2 us) :
    Fc Try.prog 102 #[.slice Ap1 rs.length cp1, .func (.func 103) #[] #[.pointer (some ⟨g, 0, none⟩)]] w fun v w' => v = .int .i64 (findP rs us) ∧ Ext w w' := by
  have e0 := Stp.refl w (fun _ => False)
  have hlim := h1.lim
  refine Fc.enter (n := 19) [(0, .slice Ap1 rs.length cp1), (1, .func (.func 103) #[] #[.pointer (some ⟨g, 0, none⟩)])] Try.func102 rfl rfl (Nat.le_of_ble_eq_true rfl) (.cons rfl (.cons rfl (.nil _))) ?_
  refine CW.seq ?_
  refine CW.region ?_
  refine WL.assign rfl ?_
  refine WL.nil ?_
  refine CW.seq ?_
  refine CW.seq ?_
  refine CW.region ?_
  refine WL.move rfl ?_
  refine WL.len Try.underlying49 rfl ?_
  refine WL.move rfl ?_
  refine WL.nil ?_
  refine CW.block ?_
  refine CW.loop (fun m σ wr0 => ∃ k : Nat, m = rs.length - k ∧ σ = [(0, .slice Ap1 rs.length cp1), (1, .func (.func 103) #[] #[.pointer (some ⟨g, 0, none⟩)]), (7, .int .i64 (rs.length : Int)), (8, .int .i64 (k : Int))] ∧ (Up w M wr0 M) ∧ (Ext w wr0) ∧ (Ext w wr0) ∧ (k ≤ rs.length) ∧ ((rs.take k).findIdx? (fun r => decide (r.inn = us)) = none)) _ _ (.cons (t := 0) rfl (.cons (t := 1) rfl (.cons (t := 7) rfl (.cons (t := 8) rfl (.nil _))))) ⟨0, rfl, rfl, Up.refl hm, e0, Stp.refl _ _, by omega, by simp⟩ ?_
  rintro m _ wr0 ⟨k, rfl, rfl, hU1, hE2, hX5, hk, hf⟩
  have hm3 := Up.mb hU1
  refine CW.seq ?_
  refine CW.region ?_
  refine WL.lss rfl rfl ?_
  refine WL.nil ?_
  refine CW.seq ?_
  refine CW.condP rfl (fun hc7 => ?_) (fun hc7 => ?_)
  · refine CW.skip ?_
    refine CW.seq ?_
    refine CW.block ?_
    refine CW.seq ?_
    refine CW.region ?_
    refine WL.move rfl ?_
    refine WL.assign rfl ?_
    refine WL.nil ?_
    refine CW.seq ?_
    refine CW.region ?_
    refine WL.move rfl ?_
    refine WL.move rfl ?_
    refine WL.move rfl ?_
    have hlt8 : k < rs.length := by omega
    obtain ⟨ad9, cs10, hA11, hs12, hat13, hR14⟩ := SlD.get (h1.up hU1) (List.getElem?_eq_getElem hlt8)
    obtain ⟨_, _, hx19, ⟨A15, c16, rfl, hD20⟩, ⟨A17, c18, rfl, hD21⟩⟩ := hR14
    rw [hx19] at hat13
    have hl22 := SlD.lim hD20
    have hl23 := SlD.lim hD21
    refine WL.idx es49 rfl rfl hA11 (by omega) (by omega) ?_
    refine WL.loadAgg (cs := [.slice A15 (rs[k].inn.length) c16, .slice A17 (rs[k].out.length) c18]) ag100 rfl hat13 ?_
    refine WL.callv rfl Try.func103 rfl rfl (.cons rfl (.nil)) (find1_spec _ _ hm3 hD20 hD21 (hp.up hU1) (h2.up hU1)) (fun _ w24 hr25 => ?_)
    obtain ⟨rfl, he26⟩ := hr25
    have u27 := Ext.up he26 hm3
    have e28 := Ext.trans hE2 he26
    have hm29 := Up.mb u27
    refine WL.nil ?_
    refine CW.condP rfl (fun hc30 => ?_) (fun hc30 => ?_)
    · refine CW.seq ?_
      refine CW.region ?_
      refine WL.move rfl ?_
      refine WL.assign rfl ?_
      refine WL.nil ?_
      refine CW.ret ?_
      refine Ret.one rfl rfl ?_
      refine ⟨?_, e28⟩
      rw [findP, findIdx_hit (by omega) hf (decide_eq_true hc30)]
    · refine CW.skip ?_
      refine CW.region ?_
      refine WL.add rfl rfl (by omega) ?_
      refine WL.move rfl ?_
      refine WL.nil ?_
      refine Loop.again _ _ ?_ ?_ ⟨k + 1, rfl, rfl, (Up.trans hU1 u27), e28, (Ext.trans hX5 he26), by omega, findIdx_next (by omega) hf (decide_eq_false hc30)⟩
      · omega
      · exact .cons (t := 0) rfl (.cons (t := 1) rfl (.cons (t := 7) rfl (.cons (t := 8) rfl (.nil _))))
  · refine CW.exit ?_
    refine CW.seq ?_
    refine CW.region ?_
    refine WL.assign rfl ?_
    refine WL.nil ?_
    refine CW.ret ?_
    refine Ret.one rfl rfl ?_
    refine ⟨?_, hE2⟩
    rw [findP, findIdx_end (by omega) hf]

theorem Find_spec (w : World) (M : MS) (hm : MB w M) {Ap1 : Option Addr} {cp1 : Nat} {rs : List PRule} (h1 : SlD RuleR 2 w M Ap1 cp1 rs) {Ap2 : Option Addr} {cp2 : Nat} {us : List Int} (h2 : SlD IntR 1 w M Ap2 cp2 us) :
    Fc Try.prog 86 #[.slice Ap1 rs.length cp1, .slice Ap2 us.length cp2] w fun v w' => v = .int .i64 (findP rs us) ∧ Ext w w' := by
  have e0 := Stp.refl w (fun _ => False)
  have hlim := h1.lim
  refine Fc.enter (n := 8) [(0, .slice Ap1 rs.length cp1), (1, .slice Ap2 us.length cp2)] Try.func86 rfl rfl (Nat.le_of_ble_eq_true rfl) (.cons rfl (.cons rfl (.nil _))) ?_
  refine CW.seq ?_
  refine CW.region ?_
  refine WL.box (cs := [.slice Ap2 us.length cp2]) rfl rfl (fun g1 w2 hg3 hb4 he5 => ?_)
  have hn6 := MB.fresh hm hg3
  have u7 := Ext.up he5 hm
  have e8 := Ext.trans e0 he5
  have hm9 := Up.mb u7
  have ha10 := Bk.at_ hb4 hn6
  refine WL.assign rfl ?_
  refine WL.nil ?_
  refine CW.seq ?_
  refine CW.region ?_
  refine WL.move rfl ?_
  refine WL.makeFunc (.cons rfl (.nil)) ?_
  refine WL.call Try.func102 rfl rfl (.cons rfl (.cons rfl (.nil))) (indexRule_spec _ _ hm9 (h1.up u7) ha10 (h2.up u7)) (fun _ w11 hr12 => ?_)
  obtain ⟨rfl, he13⟩ := hr12
  have u14 := Ext.up he13 hm9
  have e15 := Ext.trans e8 he13
  have hm16 := Up.mb u14
  refine WL.assign rfl ?_
  refine WL.nil ?_
  refine CW.ret ?_
  refine Ret.one rfl rfl ?_
  exact ⟨rfl, e15⟩

theorem Check_spec (w : World) (M : MS) (hm : MB w M) {Ap1 : Option Addr} {cp1 : Nat} {rs : List PRule} (h1 : SlD RuleR 2 w M Ap1 cp1 rs) (hlen : rs.length ≤ 512) (hok : ∀ (k : Nat) (hk : k < rs.length), mayP rs[k].inn = true ∧ mayP rs[k].out = true ∧ findP (rs.take k) rs[k].inn < 0) :
    Fc Try.prog 84 #[.slice Ap1 rs.length cp1] w fun v w' => v = .tuple #[.int .i64 (-1), .int .i64 0] ∧ Ext w w' := by
  have e0 := Stp.refl w (fun _ => False)
  have hlim := h1.lim
  refine Fc.enter (n := 39) [(0, .slice Ap1 rs.length cp1)] Try.func84 rfl rfl (Nat.le_of_ble_eq_true rfl) (.cons rfl (.nil _)) ?_
  refine CW.seq ?_
  refine CW.region ?_
  refine WL.assign rfl ?_
  refine WL.assign rfl ?_
  refine WL.nil ?_
  refine CW.seq ?_
  refine CW.seq ?_
  refine CW.region ?_
  refine WL.move rfl ?_
  refine WL.len Try.underlying49 rfl ?_
  refine WL.move rfl ?_
  refine WL.nil ?_
  refine CW.block ?_
  refine CW.loop (fun m σ wr0 => ∃ k : Nat, m = rs.length - k ∧ σ = [(0, .slice Ap1 rs.length cp1), (6, .slice Ap1 rs.length cp1), (7, .int .i64 (rs.length : Int)), (8, .int .i64 (k : Int))] ∧ (Up w M wr0 M) ∧ (Ext w wr0) ∧ (Ext w wr0) ∧ (k ≤ rs.length)) _ _ (.cons (t := 0) rfl (.cons (t := 6) rfl (.cons (t := 7) rfl (.cons (t := 8) rfl (.nil _))))) ⟨0, rfl, rfl, Up.refl hm, e0, Stp.refl _ _, by omega⟩ ?_
  rintro m _ wr0 ⟨k, rfl, rfl, hU1, hE2, hX5, hk⟩
  have hm3 := Up.mb hU1
  refine CW.seq ?_
  refine CW.region ?_
  refine WL.lss rfl rfl ?_
  refine WL.nil ?_
  refine CW.seq ?_
  refine CW.condP rfl (fun hc7 => ?_) (fun hc7 => ?_)
  · have hkl : k < rs.length := by omega
    obtain ⟨hk1, hk2, hk3⟩ := hok k hkl
    have hn1 : (!mayP rs[k].inn) = false := by rw [hk1]; rfl
    have hn2 : (!mayP rs[k].out) = false := by rw [hk2]; rfl
    refine CW.skip ?_
    refine CW.seq ?_
    refine CW.block ?_
    refine CW.seq ?_
    refine CW.region ?_
    refine WL.move rfl ?_
    have hlt8 : k < rs.length := by omega
    obtain ⟨ad9, cs10, hA11, hs12, hat13, hR14⟩ := SlD.get (h1.up hU1) (List.getElem?_eq_getElem hlt8)
    obtain ⟨_, _, hx19, ⟨A15, c16, rfl, hD20⟩, ⟨A17, c18, rfl, hD21⟩⟩ := hR14
    rw [hx19] at hat13
    have hl22 := SlD.lim hD20
    have hl23 := SlD.lim hD21
    refine WL.idx es49 rfl rfl hA11 (by omega) (by omega) ?_
    refine WL.loadAgg (cs := [.slice A15 (rs[k].inn.length) c16, .slice A17 (rs[k].out.length) c18]) ag100 rfl hat13 ?_
    refine WL.alloc (cs := [.slice none 0 0, .slice none 0 0]) ti100 rfl (fun g24 w25 hg26 hb27 he28 => ?_)
    have u29 := Ext.up he28 hm3
    have e30 := Ext.trans hE2 he28
    have hm31 := Up.mb u29
    refine WL.assign rfl ?_
    have hb35 := hb27
    refine WL.storeAll (vs := [.slice A15 (rs[k].inn.length) c16, .slice A17 (rs[k].out.length) c18]) (by rw [ti100]; rfl) rfl rfl (by simp [Value.oneCell']) hb35 rfl (fun w32 hb33 hs34 => ?_)
    have he36 : Ext wr0 w32 := Stp.trans he28 hs34 (fun k hk => .inr (by rw [hk]; exact hg26))
    have hn37 := MB.fresh hm3 hg26
    have u38 := Ext.up he36 hm3
    have e39 := Ext.trans hE2 he36
    have hm40 := Up.mb u38
    have ha41 := Bk.at_ hb33 hn37
    refine WL.nil ?_
    refine CW.block ?_
    refine CW.seq ?_
    refine CW.region ?_
    refine WL.move rfl ?_
    refine WL.geq rfl rfl ?_
    refine WL.assign rfl ?_
    refine WL.nil ?_
    have hev42 : ¬ (512 ≤ (k : Int)) := by omega
    refine CW.condP rfl (fun hn => absurd hn hev42) (fun _ => ?_)
    refine CW.seq ?_
    refine CW.region ?_
    refine WL.fieldAddr fo100_0 rfl ?_
    refine WL.load sc29 rfl (ha41.cell 0 _ rfl) ?_
    refine WL.call Try.func101 rfl rfl (.cons rfl (.nil)) (side_spec _ _ hm40 (hD20.up u38)) (fun _ w43 hr44 => ?_)
    obtain ⟨rfl, he45⟩ := hr44
    have u46 := Ext.up he45 hm40
    have e47 := Ext.trans e39 he45
    have hm48 := Up.mb u46
    refine WL.not_ rfl ?_
    refine WL.move rfl ?_
    have hev49 : (!(mayP (rs[k].inn))) = false := hn1
    refine WL.gtake rfl rfl hev49 ?_
    refine WL.fieldAddr fo100_1 rfl ?_
    refine WL.gtake rfl rfl hev49 ?_
    refine WL.load sc29 rfl ((ha41.up u46).cell 1 _ rfl) ?_
    refine WL.gtake rfl rfl hev49 ?_
    refine WL.call Try.func101 rfl rfl (.cons rfl (.nil)) (side_spec _ _ hm48 (hD21.up (Up.trans u38 u46))) (fun _ w50 hr51 => ?_)
    obtain ⟨rfl, he52⟩ := hr51
    have u53 := Ext.up he52 hm48
    have e54 := Ext.trans e47 he52
    have hm55 := Up.mb u53
    refine WL.gtake rfl rfl hev49 ?_
    refine WL.not_ rfl ?_
    refine WL.pickF (congrArg (fun b => some (Value.bool b)) hev49) rfl ?_
    refine WL.assign rfl ?_
    refine WL.nil ?_
    have hev56 : (!(mayP (rs[k].out))) = false := hn2
    refine CW.condF (congrArg (fun b => some (Value.bool b)) hev56) ?_
    refine CW.seq ?_
    refine CW.drawn [] (fun w1 w' => Ext w1 w') mixed (fun w57 ed58 hh59 => ?_)
    have u60 := Ext.up ed58 hm55
    have e61 := Ext.trans e54 ed58
    have hm62 := Up.mb u60
    have ex63 := Stp.refl w57 (fun _ => False)
    refine DW.t 0 rfl (by kernel_rfl) (fun _ _ _ h => h) (fun w' hC => Rn.move rfl) ?_
    refine DW.t 1 rfl (by kernel_rfl) (fun _ _ _ h => h) (fun w' hC => Rn.move rfl) ?_
    obtain ⟨A64, c65, hRn66, hD67, hl68⟩ := SlD.cutH (h1.up (Up.trans hU1 (Up.trans u38 (Up.trans u46 (Up.trans u53 u60))))) (i := (k : Int)) (by omega) (by omega)
    refine DW.t 2 rfl (by kernel_rfl) (fun _ _ _ h => h) (fun w' hC => Rn.rn (hRn66 es49 rfl rfl)) ?_
    refine DW.t 3 rfl (by kernel_rfl) (fun _ _ _ h => h) (fun w' hC => Rn.fieldAddr fo100_0 rfl) ?_
    refine DW.t 4 rfl (by kernel_rfl) (fun _ _ _ h => h) (fun w' hC => Rn.load sc29 rfl ((ha41.up (Up.trans (Up.trans u46 (Up.trans u53 u60)) (Ext.up hC hm62))).cell 0 _ rfl)) ?_
    refine DW.only 5 (by kernel_rfl) rfl (fun _ => ex63) ?_
    refine WL.call Try.func86 rfl rfl (.cons rfl (.cons rfl (.nil))) (Find_spec _ _ hm62 hD67 (hD20.up (Up.trans u38 (Up.trans u46 (Up.trans u53 u60))))) (fun _ w69 hr70 => ?_)
    obtain ⟨rfl, he71⟩ := hr70
    have u72 := Ext.up he71 hm62
    have e73 := Ext.trans e61 he71
    have hm74 := Up.mb u72
    have ex75 := Ext.trans ex63 he71
    refine WL.nil ?_
    refine DW.t 6 rfl (by kernel_rfl) (fun _ _ _ h => h) (fun w' hC => Rn.geq rfl rfl) ?_
    refine DW.t 7 rfl (by kernel_rfl) (fun _ _ _ h => h) (fun w' hC => Rn.assign rfl) ?_
    refine DW.done (by kernel_rfl) (fun _ => ex75) ?_
    have hev76 : ¬ (0 ≤ findP (rs.take k) (rs[k].inn)) := by omega
    refine CW.condP rfl (fun hn => absurd hn hev76) (fun _ => ?_)
    refine CW.skip ?_
    refine CW.region ?_
    refine WL.add rfl rfl (by omega) ?_
    refine WL.move rfl ?_
    refine WL.nil ?_
    refine Loop.again _ _ ?_ ?_ ⟨k + 1, rfl, rfl, (Up.trans hU1 (Up.trans u38 (Up.trans u46 (Up.trans u53 (Up.trans u60 u72))))), e73, (Ext.trans (Ext.trans (Ext.trans (Ext.trans (Ext.trans hX5 he36) he45) he52) ed58) he71), by omega⟩
    · omega
    · exact .cons (t := 0) rfl (.cons (t := 6) rfl (.cons (t := 7) rfl (.cons (t := 8) rfl (.nil _))))
  · refine CW.exit ?_
    refine CW.seq ?_
    refine CW.region ?_
    refine WL.assign rfl ?_
    refine WL.assign rfl ?_
    refine WL.nil ?_
    refine CW.ret ?_
    refine Ret.two rfl rfl rfl ?_
    exact ⟨rfl, hE2⟩

theorem Longest_spec (w : World) (M : MS) (hm : MB w M) {Ap1 : Option Addr} {cp1 : Nat} {rs : List PRule} (h1 : SlD RuleR 2 w M Ap1 cp1 rs) :
    Fc Try.prog 65 #[.slice Ap1 rs.length cp1] w fun v w' => v = .int .i64 (longP rs) ∧ Ext w w' := by
  have e0 := Stp.refl w (fun _ => False)
  have hlim := h1.lim
  refine Fc.enter (n := 19) [(0, .slice Ap1 rs.length cp1)] Try.func65 rfl rfl (Nat.le_of_ble_eq_true rfl) (.cons rfl (.nil _)) ?_
  refine CW.seq ?_
  refine CW.region ?_
  refine WL.assign rfl ?_
  refine WL.nil ?_
  refine CW.seq ?_
  refine CW.region ?_
  refine WL.assign rfl ?_
  refine WL.nil ?_
  refine CW.seq ?_
  refine CW.seq ?_
  refine CW.region ?_
  refine WL.move rfl ?_
  refine WL.len Try.underlying49 rfl ?_
  refine WL.move rfl ?_
  refine WL.nil ?_
  refine CW.block ?_
  refine CW.loop (fun m σ wr0 => ∃ k : Nat, ∃ n : Int, m = rs.length - k ∧ σ = [(3, .int .i64 n), (6, .slice Ap1 rs.length cp1), (7, .int .i64 (rs.length : Int)), (8, .int .i64 (k : Int))] ∧ (Up w M wr0 M) ∧ (Ext w wr0) ∧ (Ext w wr0) ∧ (k ≤ rs.length) ∧ (n = (rs.take k).foldl (fun n r => max n (r.inn.length : Int)) 0)) _ _ (.cons (t := 3) rfl (.cons (t := 6) rfl (.cons (t := 7) rfl (.cons (t := 8) rfl (.nil _))))) ⟨0, 0, rfl, rfl, Up.refl hm, e0, Stp.refl _ _, by omega, by simp⟩ ?_
  rintro m _ wr0 ⟨k, n, rfl, rfl, hU1, hE2, hX5, hk, hn⟩
  have hm3 := Up.mb hU1
  refine CW.seq ?_
  refine CW.region ?_
  refine WL.lss rfl rfl ?_
  refine WL.nil ?_
  refine CW.seq ?_
  refine CW.condP rfl (fun hc7 => ?_) (fun hc7 => ?_)
  · refine CW.skip ?_
    refine CW.seq ?_
    refine CW.block ?_
    refine CW.seq ?_
    refine CW.region ?_
    have hlt8 : k < rs.length := by omega
    obtain ⟨ad9, cs10, hA11, hs12, hat13, hR14⟩ := SlD.get (h1.up hU1) (List.getElem?_eq_getElem hlt8)
    obtain ⟨_, _, hx19, ⟨A15, c16, rfl, hD20⟩, ⟨A17, c18, rfl, hD21⟩⟩ := hR14
    rw [hx19] at hat13
    have hl22 := SlD.lim hD20
    have hl23 := SlD.lim hD21
    refine WL.idx es49 rfl rfl hA11 (by omega) (by omega) ?_
    refine WL.loadAgg (cs := [.slice A15 (rs[k].inn.length) c16, .slice A17 (rs[k].out.length) c18]) ag100 rfl hat13 ?_
    refine WL.alloc (cs := [.slice none 0 0, .slice none 0 0]) ti100 rfl (fun g24 w25 hg26 hb27 he28 => ?_)
    have u29 := Ext.up he28 hm3
    have e30 := Ext.trans hE2 he28
    have hm31 := Up.mb u29
    have hb35 := hb27
    refine WL.storeAll (vs := [.slice A15 (rs[k].inn.length) c16, .slice A17 (rs[k].out.length) c18]) (by rw [ti100]; rfl) rfl rfl (by simp [Value.oneCell']) hb35 rfl (fun w32 hb33 hs34 => ?_)
    have he36 : Ext wr0 w32 := Stp.trans he28 hs34 (fun k hk => .inr (by rw [hk]; exact hg26))
    have hn37 := MB.fresh hm3 hg26
    have u38 := Ext.up he36 hm3
    have e39 := Ext.trans hE2 he36
    have hm40 := Up.mb u38
    have ha41 := Bk.at_ hb33 hn37
    refine WL.nil ?_
    refine CW.region ?_
    refine WL.move rfl ?_
    refine WL.fieldAddr fo100_0 rfl ?_
    refine WL.load sc29 rfl (ha41.cell 0 _ rfl) ?_
    refine WL.len Try.underlying29 rfl ?_
    refine WL.imax rfl rfl ?_
    refine WL.assign rfl ?_
    refine WL.nil ?_
    refine CW.region ?_
    refine WL.add rfl rfl (by omega) ?_
    refine WL.move rfl ?_
    refine WL.nil ?_
    refine Loop.again _ _ ?_ ?_ ⟨k + 1, _, rfl, rfl, (Up.trans hU1 u38), e39, (Ext.trans hX5 he36), by omega, by rw [foldl_take_succ _ _ (show k < rs.length by omega), ← hn]⟩
    · omega
    · exact .cons (t := 3) rfl (.cons (t := 6) rfl (.cons (t := 7) rfl (.cons (t := 8) rfl (.nil _))))
  · refine CW.exit ?_
    refine CW.seq ?_
    refine CW.region ?_
    refine WL.move rfl ?_
    refine WL.assign rfl ?_
    refine WL.nil ?_
    refine CW.ret ?_
    refine Ret.one rfl rfl ?_
    refine ⟨?_, hE2⟩
    rw [hn, List.take_of_length_le (by omega)]; rfl

theorem Clone_spec (w : World) (M : MS) (hm : MB w M) {Ap1 : Option Addr} {cp1 : Nat} {xs : List Int} (h1 : SlD IntR 1 w M Ap1 cp1 xs) (hl : xs.length ≤ 1000000) :
    Fc Try.prog 88 #[.slice Ap1 xs.length cp1] w fun v w' => Sl IntR 1 w' M v xs ∧ Ext w w' := by
  have e0 := Stp.refl w (fun _ => False)
  have hlim := h1.lim
  have hcap := h1.cap
  refine Fc.enter (n := 8) [(0, .slice Ap1 xs.length cp1)] Try.func88 rfl rfl (Nat.le_of_ble_eq_true rfl) (.cons rfl (.nil _)) ?_
  refine CW.seq ?_
  refine CW.region ?_
  refine WL.assign rfl ?_
  refine WL.nil ?_
  refine CW.seq ?_
  refine CW.seq ?_
  refine CW.region ?_
  refine WL.move rfl ?_
  refine WL.rn (Rn.snil Try.underlying29 rfl) ?_
  refine WL.nil ?_
  refine CW.condB rfl (fun hc1 => ?_) (fun hc1 => ?_)
  · refine CW.seq ?_
    refine CW.region ?_
    refine WL.assign rfl ?_
    refine WL.nil ?_
    refine CW.ret ?_
    refine Ret.one rfl rfl ?_
    have hx0 : xs = [] := by
      have h2 : Ap1 = none := by simpa using hc1
      have h3 := h1.nil h2
      exact List.eq_nil_of_length_eq_zero (by omega)
    exact ⟨by rw [hx0]; exact Sl.nil, e0⟩
  · refine CW.skip ?_
    refine CW.seq ?_
    refine CW.region ?_
    refine WL.bslice Try.underlying29 ti3 rfl (by decide) (by decide) .nil rfl (by simp) (fun g2 w3 hg4 hb5 he6 => ?_)
    obtain ⟨M8, u9, mem10, hsub11, hinv12⟩ := Ext.addVar he6 hm hg4 hb5
    have e13 := Ext.trans e0 he6
    have hm14 := Up.mb u9
    have hsb15 : ∀ k, M k → M8 k := fun k h => hsub11 k ((fun _ h => h) k h)
    have hO7 := Bk.own (R := IntR) (sz := 1) (css := []) (ys := []) (B := w.heap.size) hb5 .nil (Nat.le_trans (Stp.size e0) hg4) mem10 (Nat.zero_le _)
    refine WL.move rfl ?_
    refine WL.append Try.underlying29 ti3 rfl (by decide) rfl rfl hO7 (SlD.sl (h1.up u9)) (Stp.size e13) hm14 (by decide) (by simp; omega) (fun v16 w17 M18 hO19 hs20 u21 hsub22 hnew23 => ?_)
    have e24 := Ext.stp e13 hs20 (fun k hk => (Own.base hO7 k hk).1)
    have hm25 := Up.mb u21
    have hsb26 : ∀ k, M k → M18 k := fun k h => hsub22 k (hsb15 k h)
    refine WL.assign rfl ?_
    refine WL.nil ?_
    refine CW.ret ?_
    refine Ret.one rfl rfl ?_
    exact ⟨Own.read0 hO19 hm25 hsb26 hm, e24⟩

theorem Turn_spec (w : World) (M : MS) (hm : MB w M) {Ap1 : Option Addr} {cp1 : Nat} {rs : List PRule} (h1 : SlD RuleR 2 w M Ap1 cp1 rs) (hlen : rs.length ≤ 512) (hok : ∀ r ∈ rs, r.inn.length ≤ 1000 ∧ r.out.length ≤ 1000) :
    Fc Try.prog 64 #[.slice Ap1 rs.length cp1] w fun v w' => Sl RuleR 2 w' M v (turnP rs) ∧ Ext w w' := by
  have e0 := Stp.refl w (fun _ => False)
  have hlim := h1.lim
  refine Fc.enter (n := 29) [(0, .slice Ap1 rs.length cp1)] Try.func64 rfl rfl (Nat.le_of_ble_eq_true rfl) (.cons rfl (.nil _)) ?_
  refine CW.seq ?_
  refine CW.region ?_
  refine WL.assign rfl ?_
  refine WL.nil ?_
  refine CW.seq ?_
  refine CW.region ?_
  refine WL.assign rfl ?_
  refine WL.nil ?_
  refine CW.seq ?_
  refine CW.seq ?_
  refine CW.region ?_
  refine WL.move rfl ?_
  refine WL.len Try.underlying49 rfl ?_
  refine WL.move rfl ?_
  refine WL.nil ?_
  refine CW.block ?_
  refine CW.loop (fun m σ wr0 => ∃ k : Nat, ∃ vl : Value, ∃ Mr1 : MS, m = rs.length - k ∧ σ = [(3, vl), (6, .slice Ap1 rs.length cp1), (7, .int .i64 (rs.length : Int)), (8, .int .i64 (k : Int))] ∧ (Up w M wr0 Mr1) ∧ (Ext w wr0) ∧ (Own RuleR 2 100 wr0 Mr1 w.heap.size vl ((rs.take k).foldl turnStep [])) ∧ (∀ k, M k → Mr1 k) ∧ (∀ k, M k → Mr1 k) ∧ (k ≤ rs.length)) _ _ (.cons (t := 3) rfl (.cons (t := 6) rfl (.cons (t := 7) rfl (.cons (t := 8) rfl (.nil _))))) ⟨0, (.slice none 0 0), M, rfl, rfl, Up.refl hm, e0, by simpa using Own.nil, fun _ h => h, (fun _ h => h), by omega⟩ ?_
  rintro m _ wr0 ⟨k, vl, Mr1, rfl, rfl, hU2, hE3, hO5, hsp8, hsb6, hk⟩
  have hm4 := Up.mb hU2
  have hl2 := turnFold_len (rs.take k) []
  have hl3 : (rs.take k).length ≤ 512 := by simp; omega
  simp only [List.length_nil, Nat.zero_add] at hl2
  refine CW.seq ?_
  refine CW.region ?_
  refine WL.lss rfl rfl ?_
  refine WL.nil ?_
  refine CW.seq ?_
  refine CW.condP rfl (fun hc9 => ?_) (fun hc9 => ?_)
  · have hkl : k < rs.length := by omega
    obtain ⟨hk1, hk2⟩ := hok rs[k] (List.getElem_mem hkl)
    refine CW.skip ?_
    refine CW.seq ?_
    refine CW.block ?_
    refine CW.seq ?_
    refine CW.region ?_
    have hlt10 : k < rs.length := by omega
    obtain ⟨ad11, cs12, hA13, hs14, hat15, hR16⟩ := SlD.get (h1.up hU2) (List.getElem?_eq_getElem hlt10)
    obtain ⟨_, _, hx21, ⟨A17, c18, rfl, hD22⟩, ⟨A19, c20, rfl, hD23⟩⟩ := hR16
    rw [hx21] at hat15
    have hl24 := SlD.lim hD22
    have hl25 := SlD.lim hD23
    refine WL.idx es49 rfl rfl hA13 (by omega) (by omega) ?_
    refine WL.loadAgg (cs := [.slice A17 (rs[k].inn.length) c18, .slice A19 (rs[k].out.length) c20]) ag100 rfl hat15 ?_
    refine WL.alloc (cs := [.slice none 0 0, .slice none 0 0]) ti100 rfl (fun g26 w27 hg28 hb29 he30 => ?_)
    have u31 := Ext.up he30 hm4
    have e32 := Ext.trans hE3 he30
    have hm33 := Up.mb u31
    have hO34 := Own.ext hO5 he30 u31 (fun _ h => h)
    have hb38 := hb29
    refine WL.storeAll (vs := [.slice A17 (rs[k].inn.length) c18, .slice A19 (rs[k].out.length) c20]) (by rw [ti100]; rfl) rfl rfl (by simp [Value.oneCell']) hb38 rfl (fun w35 hb36 hs37 => ?_)
    have he39 : Ext wr0 w35 := Stp.trans he30 hs37 (fun k hk => .inr (by rw [hk]; exact hg28))
    have hn40 := MB.fresh hm4 hg28
    have u41 := Ext.up he39 hm4
    have e42 := Ext.trans hE3 he39
    have hm43 := Up.mb u41
    have hO44 := Own.ext hO5 he39 u41 (fun _ h => h)
    have ha45 := Bk.at_ hb36 hn40
    refine WL.nil ?_
    refine CW.seq ?_
    refine CW.region ?_
    refine WL.move rfl ?_
    refine WL.fieldAddr fo100_1 rfl ?_
    refine WL.load sc29 rfl (ha45.cell 1 _ rfl) ?_
    obtain ⟨A46, c47, rfl⟩ := Own.form hO44
    refine WL.call Try.func86 rfl rfl (.cons rfl (.cons rfl (.nil))) (Find_spec _ _ (MB.none _) (Own.read00 hO44 hm43) (SlD.none (hD23.up u41) hm43)) (fun _ w49 hr50 => ?_)
    obtain ⟨rfl, he51⟩ := hr50
    have u52 := Ext.up he51 hm43
    have e53 := Ext.trans e42 he51
    have hm54 := Up.mb u52
    have hO55 := Own.ext hO44 he51 u52 (fun _ h => h)
    refine WL.lss rfl rfl ?_
    refine WL.nil ?_
    refine CW.condP rfl (fun hc56 => ?_) (fun hc56 => ?_)
    · refine CW.drawn [] (fun w1 w' => ∃ M', Up w1 Mr1 w' M') mixed (fun w57 ed58 hh59 => ?_)
      have u60 := Ext.up ed58 hm54
      have e61 := Ext.trans e53 ed58
      have hm62 := Up.mb u60
      have hO63 := Own.ext hO55 ed58 u60 (fun _ h => h)
      have ex64 := Stp.refl w57 (fun _ => False)
      refine DW.t 0 rfl (by kernel_rfl) (fun _ _ _ h => h) (fun w' ⟨_, hC⟩ => Rn.move rfl) ?_
      refine DW.t 1 rfl (by kernel_rfl) (fun _ _ _ h => h) (fun w' ⟨_, hC⟩ => Rn.fieldAddr fo100_1 rfl) ?_
      refine DW.t 2 rfl (by kernel_rfl) (fun _ _ _ h => h) (fun w' ⟨_, hC⟩ => Rn.load sc29 rfl ((ha45.up (Up.trans (Up.trans u52 u60) hC)).cell 1 _ rfl)) ?_
      refine DW.t 4 rfl (by kernel_rfl) (fun _ _ _ h => h) (fun w' ⟨_, hC⟩ => Rn.fieldAddr fo100_0 rfl) ?_
      refine DW.t 5 rfl (by kernel_rfl) (fun _ _ _ h => h) (fun w' ⟨_, hC⟩ => Rn.load sc29 rfl ((ha45.up (Up.trans (Up.trans u52 u60) hC)).cell 0 _ rfl)) ?_
      refine DW.only 3 (by kernel_rfl) rfl (fun _ => ⟨_, Up.refl hm62⟩) ?_
      refine WL.call Try.func88 rfl rfl (.cons rfl (.nil)) (Clone_spec _ _ hm62 (hD23.up (Up.trans u41 (Up.trans u52 u60))) (by omega)) (fun _ w68 hr69 => ?_)
      obtain ⟨⟨A65, c66, rfl, hD67⟩, he70⟩ := hr69
      have u71 := Ext.up he70 hm62
      have e72 := Ext.trans e61 he70
      have hm73 := Up.mb u71
      have hO74 := Own.ext hO63 he70 u71 (fun _ h => h)
      have ex75 := Ext.trans ex64 he70
      refine WL.nil ?_
      refine DW.only 6 (by kernel_rfl) rfl (fun _ => ⟨_, u71⟩) ?_
      refine WL.call Try.func88 rfl rfl (.cons rfl (.nil)) (Clone_spec _ _ hm73 (hD22.up (Up.trans u41 (Up.trans u52 (Up.trans u60 u71)))) (by omega)) (fun _ w79 hr80 => ?_)
      obtain ⟨⟨A76, c77, rfl, hD78⟩, he81⟩ := hr80
      have u82 := Ext.up he81 hm73
      have e83 := Ext.trans e72 he81
      have hm84 := Up.mb u82
      have hO85 := Own.ext hO74 he81 u82 (fun _ h => h)
      have ex86 := Ext.trans ex75 he81
      refine WL.nil ?_
      refine DW.only 7 (by kernel_rfl) rfl (fun _ => ⟨_, (Up.trans u71 u82)⟩) ?_
      refine WL.buildP (cs := #[.slice A65 ((rs[k].out).length) c66, .slice A76 ((rs[k].inn).length) c77]) (.cons rfl (.cons rfl (.nil))) (by kernel_rfl) ?_
      refine WL.nil ?_
      refine DW.only 8 (by kernel_rfl) rfl (fun _ => ⟨_, (Up.trans u71 u82)⟩) ?_
      refine WL.bslice1 (R := RuleR) (y' := (⟨rs[k].out, rs[k].inn⟩ : PRule)) Try.underlying49 ti100 rfl (by decide) (by decide) rfl ⟨_, _, rfl, SlD.sl (hD67.up u82), SlD.sl hD78⟩ rfl hm84 (fun v87 w88 hS89 he90 => ?_)
      have u91 := Ext.up he90 hm84
      have e92 := Ext.trans e83 he90
      have hm93 := Up.mb u91
      have hO94 := Own.ext hO85 he90 u91 (fun _ h => h)
      have ex95 := Ext.trans ex86 he90
      refine WL.nil ?_
      refine DW.only 9 (by kernel_rfl) rfl (fun _ => ⟨_, (Up.trans u71 (Up.trans u82 u91))⟩) ?_
      refine WL.append Try.underlying49 ti100 rfl (by decide) rfl rfl hO94 hS89 (Stp.size e92) hm93 (by decide) (by simp; omega) (fun v96 w97 M98 hO99 hs100 u101 hsub102 hnew103 => ?_)
      have e104 := Ext.stp e92 hs100 (fun k hk => (Own.base hO94 k hk).1)
      have hm105 := Up.mb u101
      have mx106 := fun k h => hsub102 k (hsp8 k h)
      have hsb107 : ∀ k, M k → M98 k := fun k h => hsub102 k (hsb6 k h)
      refine WL.nil ?_
      refine DW.t 10 rfl (by kernel_rfl) (fun _ _ _ h => h) (fun w' ⟨_, hC⟩ => Rn.assign rfl) ?_
      refine DW.done (by kernel_rfl) (fun _ => ⟨_, (Up.trans u71 (Up.trans u82 (Up.trans u91 u101)))⟩) ?_
      refine CW.region ?_
      refine WL.add rfl rfl (by omega) ?_
      refine WL.move rfl ?_
      refine WL.nil ?_
      refine Loop.again _ _ ?_ ?_ ⟨k + 1, v96, M98, rfl, rfl, (Up.trans hU2 (Up.trans u41 (Up.trans u52 (Up.trans u60 (Up.trans u71 (Up.trans u82 (Up.trans u91 u101))))))), e104, by rw [foldl_take_succ _ _ (show k < rs.length by omega), turnStep, if_pos hc56]; exact hO99, mx106, hsb107, by omega⟩
      · omega
      · exact .cons (t := 3) rfl (.cons (t := 6) rfl (.cons (t := 7) rfl (.cons (t := 8) rfl (.nil _))))
    · refine CW.skip ?_
      refine CW.region ?_
      refine WL.add rfl rfl (by omega) ?_
      refine WL.move rfl ?_
      refine WL.nil ?_
      refine Loop.again _ _ ?_ ?_ ⟨k + 1, .slice A46 (((rs.take k).foldl turnStep []).length) c47, Mr1, rfl, rfl, (Up.trans hU2 (Up.trans u41 u52)), e53, by rw [foldl_take_succ _ _ (show k < rs.length by omega), turnStep, if_neg hc56]; exact hO55, hsp8, hsb6, by omega⟩
      · omega
      · exact .cons (t := 3) rfl (.cons (t := 6) rfl (.cons (t := 7) rfl (.cons (t := 8) rfl (.nil _))))
  · refine CW.exit ?_
    refine CW.seq ?_
    refine CW.region ?_
    refine WL.move rfl ?_
    refine WL.assign rfl ?_
    refine WL.nil ?_
    refine CW.ret ?_
    refine Ret.one rfl rfl ?_
    have hk2 : k = rs.length := by omega
    subst hk2
    exact ⟨by have := Own.read0 hO5 hm4 hsb6 hm; rwa [List.take_length] at this, hE3⟩
end Go.Proofs.Ytgbajkdomcmblaa
