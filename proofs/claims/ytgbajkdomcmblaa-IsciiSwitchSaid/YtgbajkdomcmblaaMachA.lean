/- What the functions that make a law's rules come to: walks. -/
import Derived.Test.YtgbajkdomcmblaaRows
import Derived.Test.YtgbajkdomcmblaaMachD
namespace Go.Proofs.Ytgbajkdomcmblaa
open Go Go.RowKit Vc
set_option linter.unusedVariables false
set_option linter.unusedSimpArgs false
private theorem mixed : Try.prog.follows .mixedOrders = true := by kernel_rfl
private theorem take_eq_succ {xs ys : List Int} {k : Nat} (h : xs.take k = ys.take k) (h1 : k < xs.length) (h2 : k < ys.length) (he : xs[k] = ys[k]) : xs.take (k + 1) = ys.take (k + 1) := by
  rw [List.take_succ_eq_append_getElem h1, List.take_succ_eq_append_getElem h2, h, he]
private theorem fo100_0 : fieldOff Try.prog 100 0 = some 0 := by kernel_rfl
private theorem fo100_1 : fieldOff Try.prog 100 1 = some 1 := by kernel_rfl
private theorem fo157_0 : fieldOff Try.prog 157 0 = some 0 := by kernel_rfl
private theorem fo157_1 : fieldOff Try.prog 157 1 = some 1 := by kernel_rfl
private theorem fo157_2 : fieldOff Try.prog 157 2 = some 2 := by kernel_rfl
private theorem fo157_3 : fieldOff Try.prog 157 3 = some 3 := by kernel_rfl
private theorem es29 : elemSize Try.prog 29 = some 1 := by kernel_rfl
private theorem es43 : elemSize Try.prog 43 = some 5 := by kernel_rfl
private theorem es44 : elemSize Try.prog 44 = some 1 := by kernel_rfl
private theorem es49 : elemSize Try.prog 49 = some 2 := by kernel_rfl
private theorem sc3 : scalar Try.prog 3 = true := by kernel_rfl
private theorem sc4 : scalar Try.prog 4 = true := by kernel_rfl
private theorem sc5 : scalar Try.prog 5 = true := by kernel_rfl
private theorem sc29 : scalar Try.prog 29 = true := by kernel_rfl
private theorem sc44 : scalar Try.prog 44 = true := by kernel_rfl
private theorem ag100 : aggSize Try.prog 100 = some 2 := by kernel_rfl
private theorem ag157 : aggSize Try.prog 157 = some 5 := by kernel_rfl
private theorem ti3 : tinfo Try.prog 3 = some (some (.int .i64 0), 1, 8) := by kernel_rfl
private theorem ti100 : tinfo Try.prog 100 = some (some (.agg #[.slice none 0 0, .slice none 0 0]), 2, 48) := by kernel_rfl
private theorem ti157 : tinfo Try.prog 157 = some (some (.agg #[.slice none 0 0, .slice none 0 0, .bool false, .slice none 0 0, .slice none 0 0]), 5, 104) := by kernel_rfl
theorem Some_spec (w : World) (M : MS) (hm : MB w M) {Ap1 : Option Addr} {cp1 : Nat} {xs : List Int} (h1 : SlD ByteR 1 w M Ap1 cp1 xs) :
    Fc Try.prog 70 #[.slice Ap1 xs.length cp1] w fun v w' => Sl IntR 1 w' M v (someP xs) ∧ Ext w w' := by
  have e0 := Stp.refl w (fun _ => False)
  have hlim := h1.lim
  refine Fc.enter (n := 25) [(0, .slice Ap1 xs.length cp1)] Try.func70 rfl rfl (Nat.le_of_ble_eq_true rfl) (.cons rfl (.nil _)) ?_
  refine CW.seq ?_
  refine CW.region ?_
  refine WL.assign rfl ?_
  refine WL.nil ?_
  refine CW.seq ?_
  refine CW.region ?_
  refine WL.assign rfl ?_
  refine WL.nil ?_
  refine CW.seq ?_
  refine CW.seq ?_
  refine CW.region ?_
  refine WL.move rfl ?_
  refine WL.move rfl ?_
  refine WL.len Try.underlying44 rfl ?_
  refine WL.imin rfl rfl ?_
  obtain ⟨A1, c2, hRn3, hD4, hl5⟩ := SlD.cutH h1 (i := min (xs.length : Int) 60) (by omega) (by omega)
  have hy6 : (xs.take (min (xs.length : Int) 60).toNat) = xs.take 60 := by exact take_min xs 60
  rw [hy6] at hD4 hl5
  simp only [hy6] at hRn3
  refine WL.rn (hRn3 es44 rfl rfl) ?_
  refine WL.len Try.underlying44 rfl ?_
  refine WL.move rfl ?_
  refine WL.nil ?_
  refine CW.block ?_
  refine CW.loop (fun m σ wr0 => ∃ k : Nat, ∃ vl : Value, ∃ Mr7 : MS, m = (xs.take 60).length - k ∧ σ = [(3, vl), (10, .slice A1 ((xs.take 60).length) c2), (11, .int .i64 ((xs.take 60).length : Int)), (12, .int .i64 (k : Int))] ∧ (Up w M wr0 Mr7) ∧ (Ext w wr0) ∧ (Own IntR 1 3 wr0 Mr7 w.heap.size vl (((xs.take 60).take k).map fun u => 97 + u % 6)) ∧ (∀ k, M k → Mr7 k) ∧ (∀ k, M k → Mr7 k) ∧ (k ≤ (xs.take 60).length)) _ _ (.cons (t := 3) rfl (.cons (t := 10) rfl (.cons (t := 11) rfl (.cons (t := 12) rfl (.nil _))))) ⟨0, (.slice none 0 0), M, rfl, rfl, Up.refl hm, e0, by simpa using Own.nil, fun _ h => h, (fun _ h => h), by omega⟩ ?_
  rintro m _ wr0 ⟨k, vl, Mr7, rfl, rfl, hU8, hE9, hO11, hsp14, hsb12, hk⟩
  have hm10 := Up.mb hU8
  have hl2 : (((xs.take 60).take k).map fun u => 97 + u % 6).length = k := by simp; omega
  have hl3 : (xs.take 60).length ≤ 60 := by simp; omega
  refine CW.seq ?_
  refine CW.region ?_
  refine WL.lss rfl rfl ?_
  refine WL.nil ?_
  refine CW.seq ?_
  refine CW.condP rfl (fun hc15 => ?_) (fun hc15 => ?_)
  · refine CW.skip ?_
    refine CW.seq ?_
    refine CW.block ?_
    refine CW.seq ?_
    refine CW.region ?_
    have hlt16 : k < (xs.take 60).length := by omega
    obtain ⟨ad17, cs18, hA19, hs20, hat21, hR22⟩ := SlD.get (hD4.up hU8) (List.getElem?_eq_getElem hlt16)
    rw [show _ = _ from hR22.1] at hat21
    have hhR22 := hR22.2
    refine WL.idx es44 rfl rfl hA19 (by omega) (by omega) ?_
    refine WL.load sc5 rfl (hat21.cell 0 _ rfl) ?_
    refine WL.assign rfl ?_
    refine WL.nil ?_
    refine CW.region ?_
    refine WL.move rfl ?_
    refine WL.move rfl ?_
    refine WL.rem rfl rfl (by omega) (by omega) ?_
    refine WL.convert (by rw [Try.underlying5]; rfl) Try.underlying3 rfl (wrapI64 (by omega)) ?_
    refine WL.add rfl rfl (by omega) ?_
    refine WL.bslice1 (R := IntR) (y' := 97 + (((xs.take 60)[k]) % 6)) Try.underlying29 ti3 rfl (by decide) (by decide) rfl ⟨rfl, by omega⟩ rfl hm10 (fun v23 w24 hS25 he26 => ?_)
    have u27 := Ext.up he26 hm10
    have e28 := Ext.trans hE9 he26
    have hm29 := Up.mb u27
    have hO30 := Own.ext hO11 he26 u27 (fun _ h => h)
    refine WL.append Try.underlying29 ti3 rfl (by decide) rfl rfl hO30 hS25 (Stp.size e28) hm29 (by decide) (by simp; omega) (fun v31 w32 M33 hO34 hs35 u36 hsub37 hnew38 => ?_)
    have e39 := Ext.stp e28 hs35 (fun k hk => (Own.base hO30 k hk).1)
    have hm40 := Up.mb u36
    have mx41 := fun k h => hsub37 k (hsp14 k h)
    have hsb42 : ∀ k, M k → M33 k := fun k h => hsub37 k (hsb12 k h)
    refine WL.assign rfl ?_
    refine WL.nil ?_
    refine CW.region ?_
    refine WL.add rfl rfl (by omega) ?_
    refine WL.move rfl ?_
    refine WL.nil ?_
    refine Loop.again _ _ ?_ ?_ ⟨k + 1, v31, M33, rfl, rfl, (Up.trans hU8 (Up.trans u27 u36)), e39, by rw [map_take_succ _ (show k < (xs.take 60).length by omega)]; exact hO34, mx41, hsb42, by omega⟩
    · omega
    · exact .cons (t := 3) rfl (.cons (t := 10) rfl (.cons (t := 11) rfl (.cons (t := 12) rfl (.nil _))))
  · refine CW.exit ?_
    refine CW.seq ?_
    refine CW.region ?_
    refine WL.move rfl ?_
    refine WL.assign rfl ?_
    refine WL.nil ?_
    refine CW.ret ?_
    refine Ret.one rfl rfl ?_
    have hk2 : k = (xs.take 60).length := by omega
    subst hk2
    exact ⟨by have := Own.read0 hO11 hm10 hsb12 hm; rwa [List.take_length] at this, hE9⟩

theorem units_spec (w : World) (M : MS) (hm : MB w M) {Ap1 : Option Addr} {cp1 : Nat} {xs : List Int} (h1 : SlD ByteR 1 w M Ap1 cp1 xs) :
    Fc Try.prog 107 #[.slice Ap1 xs.length cp1, .int .i64 97] w fun v w' => Sl IntR 1 w' M v (unitsP xs) ∧ Ext w w' := by
  have e0 := Stp.refl w (fun _ => False)
  have hlim := h1.lim
  refine Fc.enter (n := 35) [(0, .slice Ap1 xs.length cp1), (1, .int .i64 97)] Try.func107 rfl rfl (Nat.le_of_ble_eq_true rfl) (.cons rfl (.cons rfl (.nil _))) ?_
  refine CW.seq ?_
  refine CW.region ?_
  refine WL.assign rfl ?_
  refine WL.nil ?_
  refine CW.seq ?_
  refine CW.region ?_
  refine WL.assign rfl ?_
  refine WL.nil ?_
  refine CW.seq ?_
  refine CW.seq ?_
  refine CW.region ?_
  refine WL.move rfl ?_
  refine WL.move rfl ?_
  refine WL.len Try.underlying44 rfl ?_
  refine WL.imin rfl rfl ?_
  obtain ⟨A1, c2, hRn3, hD4, hl5⟩ := SlD.cutH h1 (i := min (xs.length : Int) 4) (by first | omega | (simp only [List.length_append, List.length_cons, List.length_nil]; omega)) (by first | omega | (simp only [List.length_append, List.length_cons, List.length_nil]; omega))
  have hy6 : (xs.take (min (xs.length : Int) 4).toNat) = xs.take 4 := by exact take_min xs 4
  rw [hy6] at hD4 hl5
  simp only [hy6] at hRn3
  refine WL.rn (hRn3 es44 rfl rfl) ?_
  refine WL.len Try.underlying44 rfl ?_
  refine WL.move rfl ?_
  refine WL.nil ?_
  refine CW.block ?_
  refine CW.loop (fun m σ wr0 => ∃ k : Nat, ∃ vl : Value, ∃ Mr7 : MS, m = (xs.take 4).length - k ∧ σ = [(1, .int .i64 97), (5, vl), (12, .slice A1 ((xs.take 4).length) c2), (13, .int .i64 ((xs.take 4).length : Int)), (14, .int .i64 (k : Int))] ∧ (Up w M wr0 Mr7) ∧ (Ext w wr0) ∧ (Own IntR 1 3 wr0 Mr7 w.heap.size vl (((xs.take 4).take k).map fun u => 97 + u % 5)) ∧ (∀ k, M k → Mr7 k) ∧ (∀ k, M k → Mr7 k) ∧ (k ≤ (xs.take 4).length)) _ _ (.cons (t := 1) rfl (.cons (t := 5) rfl (.cons (t := 12) rfl (.cons (t := 13) rfl (.cons (t := 14) rfl (.nil _)))))) ⟨0, (.slice none 0 0), M, rfl, rfl, Up.refl hm, e0, by simpa using Own.nil, fun _ h => h, (fun _ h => h), by omega⟩ ?_
  rintro m _ wr0 ⟨k, vl, Mr7, rfl, rfl, hU8, hE9, hO11, hsp14, hsb12, hk⟩
  have hm10 := Up.mb hU8
  have hl2 : (((xs.take 4).take k).map fun u => 97 + u % 5).length = k := by simp; omega
  have hl3 : (xs.take 4).length ≤ 4 := by simp; omega
  refine CW.seq ?_
  refine CW.region ?_
  refine WL.lss rfl rfl ?_
  refine WL.nil ?_
  refine CW.seq ?_
  refine CW.condP rfl (fun hc15 => ?_) (fun hc15 => ?_)
  · refine CW.skip ?_
    refine CW.seq ?_
    refine CW.block ?_
    refine CW.seq ?_
    refine CW.region ?_
    have hlt16 : k < (xs.take 4).length := by first | omega | (simp only [List.length_append, List.length_cons, List.length_nil]; omega)
    obtain ⟨ad17, cs18, hA19, hs20, hat21, hR22⟩ := SlD.get (hD4.up hU8) (List.getElem?_eq_getElem hlt16)
    rw [show _ = _ from hR22.1] at hat21
    have hhR22 := hR22.2
    refine WL.idx es44 rfl rfl hA19 (by omega) (by omega) ?_
    refine WL.load sc5 rfl (hat21.cell 0 _ rfl) ?_
    refine WL.assign rfl ?_
    refine WL.nil ?_
    refine CW.region ?_
    refine WL.move rfl ?_
    refine WL.move rfl ?_
    refine WL.move rfl ?_
    refine WL.rem rfl rfl (by omega) (by omega) ?_
    refine WL.convert (by rw [Try.underlying5]; rfl) Try.underlying3 rfl (wrapI64 (by omega)) ?_
    refine WL.add rfl rfl (by omega) ?_
    refine WL.bslice1 (R := IntR) (y' := 97 + (((xs.take 4)[k]) % 5)) Try.underlying29 ti3 rfl (by decide) (by decide) rfl ⟨rfl, by omega⟩ rfl hm10 (fun v23 w24 hS25 he26 => ?_)
    have u27 := Ext.up he26 hm10
    have e28 := Ext.trans hE9 he26
    have hm29 := Up.mb u27
    have hO30 := Own.ext hO11 he26 u27 (fun _ h => h)
    refine WL.append Try.underlying29 ti3 rfl (by decide) rfl rfl hO30 hS25 (Stp.size e28) hm29 (by decide) (by simp; omega) (fun v31 w32 M33 hO34 hs35 u36 hsub37 hnew38 => ?_)
    have e39 := Ext.stp e28 hs35 (fun k hk => (Own.base hO30 k hk).1)
    have hm40 := Up.mb u36
    have mx41 := fun k h => hsub37 k (hsp14 k h)
    have hsb42 : ∀ k, M k → M33 k := fun k h => hsub37 k (hsb12 k h)
    refine WL.assign rfl ?_
    refine WL.nil ?_
    refine CW.region ?_
    refine WL.add rfl rfl (by omega) ?_
    refine WL.move rfl ?_
    refine WL.nil ?_
    refine Loop.again _ _ ?_ ?_ ⟨k + 1, v31, M33, rfl, rfl, (Up.trans hU8 (Up.trans u27 u36)), e39, by rw [map_take_succ _ (show k < (xs.take 4).length by omega)]; exact hO34, mx41, hsb42, by omega⟩
    · omega
    · exact .cons (t := 1) rfl (.cons (t := 5) rfl (.cons (t := 12) rfl (.cons (t := 13) rfl (.cons (t := 14) rfl (.nil _)))))
  · refine CW.exit ?_
    refine CW.seq ?_
    refine CW.region ?_
    have hk2 : (xs.take 4).length ≤ k := by omega
    obtain ⟨A43, c44, rfl⟩ := Own.form hO11
    refine WL.move rfl ?_
    refine WL.move rfl ?_
    refine WL.bslice Try.underlying29 ti3 rfl (by decide) (by decide) (.cons rfl (.nil)) rfl (by simp [Value.cells]) (fun g46 w47 hg48 hb49 he50 => ?_)
    have hD51 := Bk.ints (xs := [97]) hb49 (by decide) (MB.fresh hm10 hg48) (by decide)
    have u52 := Ext.up he50 hm10
    have e53 := Ext.trans hE9 he50
    have hm54 := Up.mb u52
    have hO55 := Own.ext hO11 he50 u52 (fun _ h => h)
    refine WL.append Try.underlying29 ti3 rfl (by decide) rfl rfl hO55 (SlD.sl hD51) (Stp.size e53) hm54 (by decide) (by simp; omega) (fun v56 w57 M58 hO59 hs60 u61 hsub62 hnew63 => ?_)
    have e64 := Ext.stp e53 hs60 (fun k hk => (Own.base hO55 k hk).1)
    have hm65 := Up.mb u61
    have mx66 := fun k h => hsub62 k (hsp14 k h)
    have hsb67 : ∀ k, M k → M58 k := fun k h => hsub62 k (hsb12 k h)
    refine WL.move rfl ?_
    refine WL.len Try.underlying29 rfl ?_
    refine WL.imax rfl rfl ?_
    obtain ⟨A68, c69, rfl, hD70⟩ := Own.read0 hO59 hm65 hsb67 hm
    obtain ⟨A71, c72, hRn73, hD74, hl75⟩ := SlD.cutH hD70 (i := max 1 ((((xs.take 4).take k).map fun u => 97 + u % 5).length : Int)) (by first | omega | (simp only [List.length_append, List.length_cons, List.length_nil]; omega)) (by first | omega | (simp only [List.length_append, List.length_cons, List.length_nil]; omega))
    have hy76 : (((((xs.take 4).take k).map fun u => 97 + u % 5) ++ ([97] : List Int)).take (max 1 ((((xs.take 4).take k).map fun u => 97 + u % 5).length : Int)).toNat) = unitsP xs := by exact units_end xs hk2
    rw [hy76] at hD74 hl75
    simp only [hy76] at hRn73
    refine WL.rn (hRn73 es29 rfl rfl) ?_
    refine WL.assign rfl ?_
    refine WL.nil ?_
    refine CW.ret ?_
    refine Ret.one rfl rfl ?_
    exact ⟨SlD.sl hD74, e64⟩

theorem few_spec (w : World) (M : MS) (hm : MB w M) {Ap1 : Option Addr} {cp1 : Nat} {xs : List Int} (h1 : SlD ByteR 1 w M Ap1 cp1 xs) :
    Fc Try.prog 28 #[.slice Ap1 xs.length cp1] w fun v w' => Sl IntR 1 w' M v (fewP xs) ∧ Ext w w' := by
  have e0 := Stp.refl w (fun _ => False)
  have hlim := h1.lim
  refine Fc.enter (n := 9) [(0, .slice Ap1 xs.length cp1)] Try.func28 rfl rfl (Nat.le_of_ble_eq_true rfl) (.cons rfl (.nil _)) ?_
  refine CW.seq ?_
  refine CW.region ?_
  refine WL.assign rfl ?_
  refine WL.nil ?_
  refine CW.seq ?_
  refine CW.region ?_
  refine WL.move rfl ?_
  refine WL.move rfl ?_
  refine WL.len Try.underlying44 rfl ?_
  refine WL.imin rfl rfl ?_
  obtain ⟨A1, c2, hRn3, hD4, hl5⟩ := SlD.cutH h1 (i := min (xs.length : Int) 40) (by omega) (by omega)
  have hy6 : (xs.take (min (xs.length : Int) 40).toNat) = xs.take 40 := by exact take_min xs 40
  rw [hy6] at hD4 hl5
  simp only [hy6] at hRn3
  refine WL.rn (hRn3 es44 rfl rfl) ?_
  refine WL.call Try.func70 rfl rfl (.cons rfl (.nil)) (Some_spec _ _ hm hD4) (fun _ w10 hr11 => ?_)
  obtain ⟨⟨A7, c8, rfl, hD9⟩, he12⟩ := hr11
  have u13 := Ext.up he12 hm
  have e14 := Ext.trans e0 he12
  have hm15 := Up.mb u13
  refine WL.assign rfl ?_
  refine WL.nil ?_
  refine CW.ret ?_
  refine Ret.one rfl rfl ?_
  exact ⟨SlD.sl hD9, e14⟩

theorem may_spec (w : World) (M : MS) (hm : MB w M) {Ap1 : Option Addr} {cp1 : Nat} {xs : List Int} (h1 : SlD IntR 1 w M Ap1 cp1 xs) :
    Fc Try.prog 90 #[.slice Ap1 xs.length cp1] w fun v w' => v = .bool (mayP xs) ∧ Ext w w' := by
  have e0 := Stp.refl w (fun _ => False)
  have hlim := h1.lim
  refine Fc.enter (n := 26) [(0, .slice Ap1 xs.length cp1)] Try.func90 rfl rfl (Nat.le_of_ble_eq_true rfl) (.cons rfl (.nil _)) ?_
  refine CW.seq ?_
  refine CW.region ?_
  refine WL.assign rfl ?_
  refine WL.nil ?_
  refine CW.seq ?_
  refine CW.seq ?_
  refine CW.region ?_
  refine WL.move rfl ?_
  refine WL.len Try.underlying29 rfl ?_
  refine WL.move rfl ?_
  refine WL.nil ?_
  refine CW.block ?_
  refine CW.loop (fun m σ wr0 => ∃ k : Nat, m = xs.length - k ∧ σ = [(0, .slice Ap1 xs.length cp1), (5, .slice Ap1 xs.length cp1), (6, .int .i64 (xs.length : Int)), (7, .int .i64 (k : Int))] ∧ (Up w M wr0 M) ∧ (Ext w wr0) ∧ (Ext w wr0) ∧ (k ≤ xs.length) ∧ ((xs.take k).all okU = true)) _ _ (.cons (t := 0) rfl (.cons (t := 5) rfl (.cons (t := 6) rfl (.cons (t := 7) rfl (.nil _))))) ⟨0, rfl, rfl, Up.refl hm, e0, Stp.refl _ _, by omega, by simp⟩ ?_
  rintro m _ wr0 ⟨k, rfl, rfl, hU1, hE2, hX5, hk, hf⟩
  have hm3 := Up.mb hU1
  refine CW.seq ?_
  refine CW.region ?_
  refine WL.lss rfl rfl ?_
  refine WL.nil ?_
  refine CW.seq ?_
  refine CW.condP rfl (fun hc7 => ?_) (fun hc7 => ?_)
  · refine CW.skip ?_
    refine CW.seq ?_
    refine CW.block ?_
    refine CW.seq ?_
    refine CW.region ?_
    have hlt8 : k < xs.length := by omega
    obtain ⟨ad9, cs10, hA11, hs12, hat13, hR14⟩ := SlD.get (h1.up hU1) (List.getElem?_eq_getElem hlt8)
    rw [show _ = _ from hR14.1] at hat13
    have hhR14 := hR14.2; simp only [I64] at hhR14
    refine WL.idx es29 rfl rfl hA11 (by omega) (by omega) ?_
    refine WL.load sc3 rfl (hat13.cell 0 _ rfl) ?_
    refine WL.assign rfl ?_
    refine WL.nil ?_
    refine CW.seq ?_
    refine CW.region ?_
    refine WL.move rfl ?_
    refine WL.lss rfl rfl ?_
    refine WL.move rfl ?_
    by_cases hg15 : xs[k] < 0
    · refine WL.gskip rfl rfl (decide_eq_true hg15) ?_
      refine WL.gskip rfl rfl (decide_eq_true hg15) ?_
      refine WL.pickT (congrArg (fun b => some (Value.bool b)) (decide_eq_true hg15)) rfl ?_
      refine WL.nil ?_
      refine CW.condT rfl ?_
      refine CW.seq ?_
      refine CW.region ?_
      refine WL.assign rfl ?_
      refine WL.nil ?_
      refine CW.ret ?_
      refine Ret.one rfl rfl ?_
      refine ⟨?_, hE2⟩
      rw [mayP, all_bad (l := xs) (i := k) (by omega) (by simp only [okU]; simp; omega)]; rfl
    · refine WL.gtake rfl rfl (decide_eq_false hg15) ?_
      refine WL.move rfl ?_
      refine WL.gtake rfl rfl (decide_eq_false hg15) ?_
      refine WL.gtr rfl rfl ?_
      refine WL.pickF (congrArg (fun b => some (Value.bool b)) (decide_eq_false hg15)) rfl ?_
      refine WL.nil ?_
      refine CW.condP rfl (fun hc16 => ?_) (fun hc16 => ?_)
      · refine CW.seq ?_
        refine CW.region ?_
        refine WL.assign rfl ?_
        refine WL.nil ?_
        refine CW.ret ?_
        refine Ret.one rfl rfl ?_
        refine ⟨?_, hE2⟩
        rw [mayP, all_bad (l := xs) (i := k) (by omega) (by simp only [okU]; simp; omega)]; rfl
      · refine CW.skip ?_
        refine CW.region ?_
        refine WL.add rfl rfl (by omega) ?_
        refine WL.move rfl ?_
        refine WL.nil ?_
        refine Loop.again _ _ ?_ ?_ ⟨k + 1, rfl, rfl, hU1, hE2, hX5, by omega, all_next (by omega) hf (by simp only [okU]; simp; omega)⟩
        · omega
        · exact .cons (t := 0) rfl (.cons (t := 5) rfl (.cons (t := 6) rfl (.cons (t := 7) rfl (.nil _))))
  · refine CW.exit ?_
    refine CW.seq ?_
    refine CW.region ?_
    refine WL.move rfl ?_
    refine WL.len Try.underlying29 rfl ?_
    refine WL.gtr rfl rfl ?_
    refine WL.move rfl ?_
    by_cases hg17 : 0 < (xs.length : Int)
    · refine WL.gtake rfl rfl (decide_eq_true hg17) ?_
      refine WL.move rfl ?_
      refine WL.gtake rfl rfl (decide_eq_true hg17) ?_
      refine WL.len Try.underlying29 rfl ?_
      refine WL.gtake rfl rfl (decide_eq_true hg17) ?_
      refine WL.lss rfl rfl ?_
      refine WL.pickT (congrArg (fun b => some (Value.bool b)) (decide_eq_true hg17)) rfl ?_
      refine WL.assign rfl ?_
      refine WL.nil ?_
      refine CW.ret ?_
      refine Ret.one rfl rfl ?_
      refine ⟨?_, hE2⟩
      rw [mayP, all_end (by omega) hf]
      by_cases h9 : xs.length < 9 <;> by_cases h0 : 0 < xs.length <;> simp [h9, h0] <;> omega
    · refine WL.gskip rfl rfl (decide_eq_false hg17) ?_
      refine WL.gskip rfl rfl (decide_eq_false hg17) ?_
      refine WL.gskip rfl rfl (decide_eq_false hg17) ?_
      refine WL.pickF (congrArg (fun b => some (Value.bool b)) (decide_eq_false hg17)) rfl ?_
      refine WL.assign rfl ?_
      refine WL.nil ?_
      refine CW.ret ?_
      refine Ret.one rfl rfl ?_
      refine ⟨?_, hE2⟩
      rw [mayP, all_end (by omega) hf]
      by_cases h9 : xs.length < 9 <;> by_cases h0 : 0 < xs.length <;> simp [h9, h0] <;> omega

theorem Units_spec (w : World) (M : MS) (hm : MB w M) {Ap1 : Option Addr} {cp1 : Nat} {xs : List Int} (h1 : SlD IntR 1 w M Ap1 cp1 xs) {Ap2 : Option Addr} {cp2 : Nat} {ys : List Int} (h2 : SlD IntR 1 w M Ap2 cp2 ys) :
    Fc Try.prog 39 #[.slice Ap1 xs.length cp1, .slice Ap2 ys.length cp2] w fun v w' => v = .bool (decide (xs = ys)) ∧ Ext w w' := by
  have e0 := Stp.refl w (fun _ => False)
  have hlim := h1.lim
  refine Fc.enter (n := 26) [(0, .slice Ap1 xs.length cp1), (1, .slice Ap2 ys.length cp2)] Try.func39 rfl rfl (Nat.le_of_ble_eq_true rfl) (.cons rfl (.cons rfl (.nil _))) ?_
  refine CW.seq ?_
  refine CW.region ?_
  refine WL.assign rfl ?_
  refine WL.nil ?_
  refine CW.seq ?_
  refine CW.seq ?_
  refine CW.region ?_
  refine WL.move rfl ?_
  refine WL.len Try.underlying29 rfl ?_
  refine WL.move rfl ?_
  refine WL.len Try.underlying29 rfl ?_
  refine WL.neq rfl rfl ?_
  refine WL.nil ?_
  refine CW.condP rfl (fun hc1 => ?_) (fun hc1 => ?_)
  · refine CW.seq ?_
    refine CW.region ?_
    refine WL.assign rfl ?_
    refine WL.nil ?_
    refine CW.ret ?_
    refine Ret.one rfl rfl ?_
    refine ⟨?_, e0⟩
    have : xs ≠ ys := fun e => hc1 (by rw [e])
    simp [this]
  · have hle : xs.length = ys.length := by omega
    refine CW.skip ?_
    refine CW.seq ?_
    refine CW.seq ?_
    refine CW.region ?_
    refine WL.move rfl ?_
    refine WL.len Try.underlying29 rfl ?_
    refine WL.move rfl ?_
    refine WL.nil ?_
    refine CW.block ?_
    refine CW.loop (fun m σ wr0 => ∃ k : Nat, m = xs.length - k ∧ σ = [(0, .slice Ap1 xs.length cp1), (1, .slice Ap2 ys.length cp2), (12, .int .i64 (xs.length : Int)), (13, .int .i64 (k : Int))] ∧ (Up w M wr0 M) ∧ (Ext w wr0) ∧ (Ext w wr0) ∧ (k ≤ xs.length) ∧ (xs.take k = ys.take k)) _ _ (.cons (t := 0) rfl (.cons (t := 1) rfl (.cons (t := 12) rfl (.cons (t := 13) rfl (.nil _))))) ⟨0, rfl, rfl, Up.refl hm, e0, Stp.refl _ _, by omega, by simp⟩ ?_
    rintro m _ wr0 ⟨k, rfl, rfl, hU2, hE3, hX6, hk, htk⟩
    have hm4 := Up.mb hU2
    refine CW.seq ?_
    refine CW.region ?_
    refine WL.lss rfl rfl ?_
    refine WL.nil ?_
    refine CW.seq ?_
    refine CW.condP rfl (fun hc8 => ?_) (fun hc8 => ?_)
    · refine CW.skip ?_
      refine CW.seq ?_
      refine CW.block ?_
      refine CW.seq ?_
      refine CW.region ?_
      refine WL.move rfl ?_
      refine WL.assign rfl ?_
      refine WL.nil ?_
      refine CW.seq ?_
      refine CW.drawn [] (fun w1 w' => w' = w1) mixed (fun w9 ed10 hh11 => ?_)
      have u12 := Ext.up ed10 hm4
      have e13 := Ext.trans hE3 ed10
      have hm14 := Up.mb u12
      refine DW.t 0 rfl (by kernel_rfl) (fun _ _ _ h => h) (by rintro _ rfl; exact Rn.move rfl) ?_
      refine DW.t 1 rfl (by kernel_rfl) (fun _ _ _ h => h) (by rintro _ rfl; exact Rn.move rfl) ?_
      have hlt15 : k < xs.length := by omega
      obtain ⟨ad16, cs17, hA18, hs19, hat20, hR21⟩ := SlD.get (h1.up (Up.trans hU2 u12)) (List.getElem?_eq_getElem hlt15)
      rw [show _ = _ from hR21.1] at hat20
      have hhR21 := hR21.2; simp only [I64] at hhR21
      refine DW.t 2 rfl (by kernel_rfl) (fun _ _ _ h => h) (by rintro _ rfl; exact Rn.idx es29 rfl rfl hA18 (by omega) (by omega)) ?_
      refine DW.t 3 rfl (by kernel_rfl) (fun _ _ _ h => h) (by rintro _ rfl; exact Rn.load sc3 rfl (hat20.cell 0 _ rfl)) ?_
      refine DW.t 4 rfl (by kernel_rfl) (fun _ _ _ h => h) (by rintro _ rfl; exact Rn.move rfl) ?_
      refine DW.t 5 rfl (by kernel_rfl) (fun _ _ _ h => h) (by rintro _ rfl; exact Rn.move rfl) ?_
      have hlt22 : k < ys.length := by omega
      obtain ⟨ad23, cs24, hA25, hs26, hat27, hR28⟩ := SlD.get (h2.up (Up.trans hU2 u12)) (List.getElem?_eq_getElem hlt22)
      rw [show _ = _ from hR28.1] at hat27
      have hhR28 := hR28.2; simp only [I64] at hhR28
      refine DW.t 6 rfl (by kernel_rfl) (fun _ _ _ h => h) (by rintro _ rfl; exact Rn.idx es29 rfl rfl hA25 (by omega) (by omega)) ?_
      refine DW.t 7 rfl (by kernel_rfl) (fun _ _ _ h => h) (by rintro _ rfl; exact Rn.load sc3 rfl (hat27.cell 0 _ rfl)) ?_
      refine DW.t 8 rfl (by kernel_rfl) (fun _ _ _ h => h) (by rintro _ rfl; exact Rn.neq rfl rfl) ?_
      refine DW.done (by kernel_rfl) (fun _ => rfl) ?_
      refine CW.condP rfl (fun hc29 => ?_) (fun hc29 => ?_)
      · refine CW.seq ?_
        refine CW.region ?_
        refine WL.assign rfl ?_
        refine WL.nil ?_
        refine CW.ret ?_
        refine Ret.one rfl rfl ?_
        refine ⟨?_, e13⟩
        exact congrArg Value.bool (decide_eq_false (fun e => hc29 (by simp only [e]))).symm
      · refine CW.skip ?_
        refine CW.region ?_
        refine WL.add rfl rfl (by omega) ?_
        refine WL.move rfl ?_
        refine WL.nil ?_
        refine Loop.again _ _ ?_ ?_ ⟨k + 1, rfl, rfl, (Up.trans hU2 u12), e13, (Ext.trans hX6 ed10), by omega, take_eq_succ htk (by omega) (by omega) (Classical.not_not.1 hc29)⟩
        · omega
        · exact .cons (t := 0) rfl (.cons (t := 1) rfl (.cons (t := 12) rfl (.cons (t := 13) rfl (.nil _))))
    · refine CW.exit ?_
      refine CW.seq ?_
      refine CW.region ?_
      refine WL.assign rfl ?_
      refine WL.nil ?_
      refine CW.ret ?_
      refine Ret.one rfl rfl ?_
      refine ⟨?_, hE3⟩
      have : xs = ys := by
        have h3 : k = xs.length := by omega
        rw [h3, List.take_length, hle, List.take_length] at htk
        exact htk
      simp [this]

theorem find_spec (w : World) (M : MS) (hm : MB w M) {Ap1 : Option Addr} {cp1 : Nat} {rs : List PRule} (h1 : SlD RuleR 2 w M Ap1 cp1 rs) {Ap2 : Option Addr} {cp2 : Nat} {us : List Int} (h2 : SlD IntR 1 w M Ap2 cp2 us) :
    Fc Try.prog 91 #[.slice Ap1 rs.length cp1, .slice Ap2 us.length cp2] w fun v w' => v = .int .i64 (findP rs us) ∧ Ext w w' := by
  have e0 := Stp.refl w (fun _ => False)
  have hlim := h1.lim
  refine Fc.enter (n := 20) [(0, .slice Ap1 rs.length cp1), (1, .slice Ap2 us.length cp2)] Try.func91 rfl rfl (Nat.le_of_ble_eq_true rfl) (.cons rfl (.cons rfl (.nil _))) ?_
  refine CW.seq ?_
  refine CW.region ?_
  refine WL.assign rfl ?_
  refine WL.nil ?_
  refine CW.seq ?_
  refine CW.seq ?_
  refine CW.region ?_
  refine WL.move rfl ?_
  refine WL.len Try.underlying49 rfl ?_
  refine WL.move rfl ?_
  refine WL.nil ?_
  refine CW.block ?_
  refine CW.loop (fun m σ wr0 => ∃ k : Nat, m = rs.length - k ∧ σ = [(1, .slice Ap2 us.length cp2), (7, .slice Ap1 rs.length cp1), (8, .int .i64 (rs.length : Int)), (9, .int .i64 (k : Int))] ∧ (Up w M wr0 M) ∧ (Ext w wr0) ∧ (Ext w wr0) ∧ (k ≤ rs.length) ∧ ((rs.take k).findIdx? (fun r => decide (r.inn = us)) = none)) _ _ (.cons (t := 1) rfl (.cons (t := 7) rfl (.cons (t := 8) rfl (.cons (t := 9) rfl (.nil _))))) ⟨0, rfl, rfl, Up.refl hm, e0, Stp.refl _ _, by omega, by simp⟩ ?_
  rintro m _ wr0 ⟨k, rfl, rfl, hU1, hE2, hX5, hk, hf⟩
  have hm3 := Up.mb hU1
  refine CW.seq ?_
  refine CW.region ?_
  refine WL.lss rfl rfl ?_
  refine WL.nil ?_
  refine CW.seq ?_
  refine CW.condP rfl (fun hc7 => ?_) (fun hc7 => ?_)
  · refine CW.skip ?_
    refine CW.seq ?_
    refine CW.block ?_
    refine CW.seq ?_
    refine CW.region ?_
    refine WL.move rfl ?_
    have hlt8 : k < rs.length := by omega
    obtain ⟨ad9, cs10, hA11, hs12, hat13, hR14⟩ := SlD.get (h1.up hU1) (List.getElem?_eq_getElem hlt8)
    obtain ⟨_, _, hx19, ⟨A15, c16, rfl, hD20⟩, ⟨A17, c18, rfl, hD21⟩⟩ := hR14
    rw [hx19] at hat13
    have hl22 := SlD.lim hD20
    have hl23 := SlD.lim hD21
    refine WL.idx es49 rfl rfl hA11 (by omega) (by omega) ?_
    refine WL.loadAgg (cs := [.slice A15 (rs[k].inn.length) c16, .slice A17 (rs[k].out.length) c18]) ag100 rfl hat13 ?_
    refine WL.alloc (cs := [.slice none 0 0, .slice none 0 0]) ti100 rfl (fun g24 w25 hg26 hb27 he28 => ?_)
    have u29 := Ext.up he28 hm3
    have e30 := Ext.trans hE2 he28
    have hm31 := Up.mb u29
    refine WL.assign rfl ?_
    have hb35 := hb27
    refine WL.storeAll (vs := [.slice A15 (rs[k].inn.length) c16, .slice A17 (rs[k].out.length) c18]) (by rw [ti100]; rfl) rfl rfl (by simp [Value.oneCell']) hb35 rfl (fun w32 hb33 hs34 => ?_)
    have he36 : Ext wr0 w32 := Stp.trans he28 hs34 (fun k hk => .inr (by rw [hk]; exact hg26))
    have hn37 := MB.fresh hm3 hg26
    have u38 := Ext.up he36 hm3
    have e39 := Ext.trans hE2 he36
    have hm40 := Up.mb u38
    have ha41 := Bk.at_ hb33 hn37
    refine WL.nil ?_
    refine CW.seq ?_
    refine CW.region ?_
    refine WL.fieldAddr fo100_0 rfl ?_
    refine WL.load sc29 rfl (ha41.cell 0 _ rfl) ?_
    refine WL.move rfl ?_
    refine WL.call Try.func39 rfl rfl (.cons rfl (.cons rfl (.nil))) (Units_spec _ _ hm40 (hD20.up u38) (h2.up (Up.trans hU1 u38))) (fun _ w42 hr43 => ?_)
    obtain ⟨rfl, he44⟩ := hr43
    have u45 := Ext.up he44 hm40
    have e46 := Ext.trans e39 he44
    have hm47 := Up.mb u45
    refine WL.nil ?_
    refine CW.condP rfl (fun hc48 => ?_) (fun hc48 => ?_)
    · refine CW.seq ?_
      refine CW.region ?_
      refine WL.move rfl ?_
      refine WL.assign rfl ?_
      refine WL.nil ?_
      refine CW.ret ?_
      refine Ret.one rfl rfl ?_
      refine ⟨?_, e46⟩
      rw [findP, findIdx_hit (by omega) hf (decide_eq_true hc48)]
    · refine CW.skip ?_
      refine CW.region ?_
      refine WL.add rfl rfl (by omega) ?_
      refine WL.move rfl ?_
      refine WL.nil ?_
      refine Loop.again _ _ ?_ ?_ ⟨k + 1, rfl, rfl, (Up.trans hU1 (Up.trans u38 u45)), e46, (Ext.trans (Ext.trans hX5 he36) he44), by omega, findIdx_next (by omega) hf (decide_eq_false hc48)⟩
      · omega
      · exact .cons (t := 1) rfl (.cons (t := 7) rfl (.cons (t := 8) rfl (.cons (t := 9) rfl (.nil _))))
  · refine CW.exit ?_
    refine CW.seq ?_
    refine CW.region ?_
    refine WL.assign rfl ?_
    refine WL.nil ?_
    refine CW.ret ?_
    refine Ret.one rfl rfl ?_
    refine ⟨?_, hE2⟩
    rw [findP, findIdx_end (by omega) hf]

theorem Rules_spec (w : World) (M : MS) (hm : MB w M) {Ap1 : Option Addr} {cp1 : Nat} {rows : List PRow} (h1 : SlD RowR 5 w M Ap1 cp1 rows) :
    Fc Try.prog 89 #[.slice Ap1 rows.length cp1] w fun v w' => Sl RuleR 2 w' M v (rulesP rows) ∧ Ext w w' := by
  have e0 := Stp.refl w (fun _ => False)
  have hlim := h1.lim
  refine Fc.enter (n := 34) [(0, .slice Ap1 rows.length cp1)] Try.func89 rfl rfl (Nat.le_of_ble_eq_true rfl) (.cons rfl (.nil _)) ?_
  refine CW.seq ?_
  refine CW.region ?_
  refine WL.assign rfl ?_
  refine WL.nil ?_
  refine CW.seq ?_
  refine CW.region ?_
  refine WL.assign rfl ?_
  refine WL.nil ?_
  refine CW.seq ?_
  refine CW.seq ?_
  refine CW.region ?_
  refine WL.move rfl ?_
  refine WL.move rfl ?_
  refine WL.len Try.underlying43 rfl ?_
  refine WL.imin rfl rfl ?_
  obtain ⟨A1, c2, hRn3, hD4, hl5⟩ := SlD.cutH h1 (i := min (rows.length : Int) 40) (by omega) (by omega)
  have hy6 : (rows.take (min (rows.length : Int) 40).toNat) = rows.take 40 := by exact take_min rows 40
  rw [hy6] at hD4 hl5
  simp only [hy6] at hRn3
  refine WL.rn (hRn3 es43 rfl rfl) ?_
  refine WL.len Try.underlying43 rfl ?_
  refine WL.move rfl ?_
  refine WL.nil ?_
  refine CW.block ?_
  refine CW.loop (fun m σ wr0 => ∃ k : Nat, ∃ vl : Value, ∃ Mr7 : MS, m = (rows.take 40).length - k ∧ σ = [(3, vl), (11, .slice A1 ((rows.take 40).length) c2), (12, .int .i64 ((rows.take 40).length : Int)), (13, .int .i64 (k : Int))] ∧ (Up w M wr0 Mr7) ∧ (Ext w wr0) ∧ (Own RuleR 2 100 wr0 Mr7 w.heap.size vl (((rows.take 40).take k).map ruleP)) ∧ (∀ k, M k → Mr7 k) ∧ (∀ k, M k → Mr7 k) ∧ (k ≤ (rows.take 40).length)) _ _ (.cons (t := 3) rfl (.cons (t := 11) rfl (.cons (t := 12) rfl (.cons (t := 13) rfl (.nil _))))) ⟨0, (.slice none 0 0), M, rfl, rfl, Up.refl hm, e0, by simpa using Own.nil, fun _ h => h, (fun _ h => h), by omega⟩ ?_
  rintro m _ wr0 ⟨k, vl, Mr7, rfl, rfl, hU8, hE9, hO11, hsp14, hsb12, hk⟩
  have hm10 := Up.mb hU8
  have hl2 : (((rows.take 40).take k).map ruleP).length = k := by simp; omega
  have hl3 : (rows.take 40).length ≤ 40 := by simp; omega
  refine CW.seq ?_
  refine CW.region ?_
  refine WL.lss rfl rfl ?_
  refine WL.nil ?_
  refine CW.seq ?_
  refine CW.condP rfl (fun hc15 => ?_) (fun hc15 => ?_)
  · refine CW.skip ?_
    refine CW.seq ?_
    refine CW.block ?_
    refine CW.seq ?_
    refine CW.region ?_
    have hlt16 : k < (rows.take 40).length := by omega
    obtain ⟨ad17, cs18, hA19, hs20, hat21, hR22⟩ := SlD.get (hD4.up hU8) (List.getElem?_eq_getElem hlt16)
    obtain ⟨_, _, _, _, hx35, ⟨A23, c27, rfl, hD31⟩, ⟨A24, c28, rfl, hD32⟩, ⟨A25, c29, rfl, hD33⟩, ⟨A26, c30, rfl, hD34⟩⟩ := hR22
    rw [hx35] at hat21
    refine WL.idx es43 rfl rfl hA19 (by omega) (by omega) ?_
    refine WL.loadAgg (cs := [.slice A23 ((rows.take 40)[k].inn.length) c27, .slice A24 ((rows.take 40)[k].out.length) c28, .bool ((rows.take 40)[k].odd), .slice A25 ((rows.take 40)[k].any.inn.length) c29, .slice A26 ((rows.take 40)[k].any.out.length) c30]) ag157 rfl hat21 ?_
    refine WL.alloc (cs := [.slice none 0 0, .slice none 0 0, .bool false, .slice none 0 0, .slice none 0 0]) ti157 rfl (fun g36 w37 hg38 hb39 he40 => ?_)
    have u41 := Ext.up he40 hm10
    have e42 := Ext.trans hE9 he40
    have hm43 := Up.mb u41
    have hO44 := Own.ext hO11 he40 u41 (fun _ h => h)
    have hb48 := hb39
    refine WL.storeAll (vs := [.slice A23 ((rows.take 40)[k].inn.length) c27, .slice A24 ((rows.take 40)[k].out.length) c28, .bool ((rows.take 40)[k].odd), .slice A25 ((rows.take 40)[k].any.inn.length) c29, .slice A26 ((rows.take 40)[k].any.out.length) c30]) (by rw [ti157]; rfl) rfl rfl (by simp [Value.oneCell']) hb48 rfl (fun w45 hb46 hs47 => ?_)
    have he49 : Ext wr0 w45 := Stp.trans he40 hs47 (fun k hk => .inr (by rw [hk]; exact hg38))
    have hn50 := MB.fresh hm10 hg38
    have u51 := Ext.up he49 hm10
    have e52 := Ext.trans hE9 he49
    have hm53 := Up.mb u51
    have hO54 := Own.ext hO11 he49 u51 (fun _ h => h)
    have ha55 := Bk.at_ hb46 hn50
    refine WL.nil ?_
    refine CW.seq ?_
    refine CW.drawn [] (fun w1 w' => Ext w1 w') mixed (fun w56 ed57 hh58 => ?_)
    have u59 := Ext.up ed57 hm53
    have e60 := Ext.trans e52 ed57
    have hm61 := Up.mb u59
    have hO62 := Own.ext hO54 ed57 u59 (fun _ h => h)
    have ex63 := Stp.refl w56 (fun _ => False)
    refine DW.t 0 rfl (by kernel_rfl) (fun _ _ _ h => h) (fun w' hC => Rn.fieldAddr fo157_0 rfl) ?_
    refine DW.t 1 rfl (by kernel_rfl) (fun _ _ _ h => h) (fun w' hC => Rn.load sc44 rfl ((ha55.up (Up.trans u59 (Ext.up hC hm61))).cell 0 _ rfl)) ?_
    refine DW.t 3 rfl (by kernel_rfl) (fun _ _ _ h => h) (fun w' hC => Rn.fieldAddr fo157_1 rfl) ?_
    refine DW.t 4 rfl (by kernel_rfl) (fun _ _ _ h => h) (fun w' hC => Rn.load sc44 rfl ((ha55.up (Up.trans u59 (Ext.up hC hm61))).cell 1 _ rfl)) ?_
    refine DW.two 2 7 (by kernel_rfl) rfl rfl (fun _ => ex63) ?_ ?_
    · refine WL.call Try.func107 rfl rfl (.cons rfl (.cons rfl (.nil))) (units_spec _ _ hm61 (hD31.up (Up.trans u51 u59))) (fun _ w67 hr68 => ?_)
      obtain ⟨⟨A64, c65, rfl, hD66⟩, he69⟩ := hr68
      have u70 := Ext.up he69 hm61
      have e71 := Ext.trans e60 he69
      have hm72 := Up.mb u70
      have hO73 := Own.ext hO62 he69 u70 (fun _ h => h)
      have ex74 := Ext.trans ex63 he69
      refine WL.nil ?_
      refine DW.two 5 7 (by kernel_rfl) rfl rfl (fun _ => ex74) ?_ ?_
      · refine WL.call Try.func107 rfl rfl (.cons rfl (.cons rfl (.nil))) (units_spec _ _ hm72 (hD32.up (Up.trans u51 (Up.trans u59 u70)))) (fun _ w78 hr79 => ?_)
        obtain ⟨⟨A75, c76, rfl, hD77⟩, he80⟩ := hr79
        have u81 := Ext.up he80 hm72
        have e82 := Ext.trans e71 he80
        have hm83 := Up.mb u81
        have hO84 := Own.ext hO73 he80 u81 (fun _ h => h)
        have ex85 := Ext.trans ex74 he80
        refine WL.nil ?_
        refine DW.two 6 7 (by kernel_rfl) rfl rfl (fun _ => ex85) ?_ ?_
        · refine WL.buildP (cs := #[.slice A64 ((unitsP ((rows.take 40)[k].inn)).length) c65, .slice A75 ((unitsP ((rows.take 40)[k].out)).length) c76]) (.cons rfl (.cons rfl (.nil))) (by kernel_rfl) ?_
          refine WL.nil ?_
          refine DW.only 7 (by kernel_rfl) rfl (fun _ => ex85) ?_
          refine WL.alloc (cs := [.slice none 0 0, .slice none 0 0]) ti100 rfl (fun g86 w87 hg88 hb89 he90 => ?_)
          obtain ⟨M91, u92, mem93, hsub94, hinv95⟩ := Ext.addVar he90 hm83 hg88 hb89
          have e96 := Ext.trans e82 he90
          have hm97 := Up.mb u92
          have ge98 := Nat.le_trans (Stp.size e82) hg88
          have ge99 := Nat.le_trans (Stp.size ex85) hg88
          have ex100 := Ext.trans ex85 he90
          have no101 : ¬ Value.ownBlock vl = some g86 := fun hk => by have h1 := (Own.base hO84 _ hk).2; have h2 := hg88; omega
          have hO102 := Own.ext hO84 he90 u92 hsub94
          have mx103 := fun k h => hsub94 k (hsp14 k h)
          have hsb104 : ∀ k, M k → M91 k := fun k h => hsub94 k (hsb12 k h)
          refine WL.nil ?_
          refine DW.only 8 (by kernel_rfl) rfl (fun _ => ex100) ?_
          refine WL.storeAll (vs := [.slice A64 ((unitsP ((rows.take 40)[k].inn)).length) c65, .slice A75 ((unitsP ((rows.take 40)[k].out)).length) c76]) (by rw [ti100]; rfl) rfl rfl (by simp [Value.oneCell']) hb89 rfl (fun w105 hb106 hs107 => ?_)
          have u108 := Stp.var hs107 hm97 mem93
          have e109 := Ext.stp e96 hs107 (fun k hk => by rw [hk]; exact ge98)
          have hm110 := Up.mb u108
          have ex111 := Ext.stp ex100 hs107 (fun k hk => by rw [hk]; exact ge99)
          have hO112 := Own.step hO102 hs107 (fun k hk he => no101 (he ▸ hk)) u108 (fun k hk => Own.mem hO102 k hk)
          refine WL.nil ?_
          refine DW.done (by kernel_rfl) (fun _ => ex111) ?_
          refine CW.seq ?_
          refine CW.seq ?_
          refine CW.region ?_
          refine WL.fieldAddr fo157_2 rfl ?_
          refine WL.load sc4 rfl ((ha55.up (Up.trans u59 (Up.trans u70 (Up.trans u81 (Up.trans u92 u108))))).cell 2 _ rfl) ?_
          refine WL.nil ?_
          refine CW.condB rfl (fun hc113 => ?_) (fun hc113 => ?_)
          · refine CW.region ?_
            refine WL.fieldAddr fo157_3 rfl ?_
            refine WL.loadAgg (cs := [.slice A25 ((rows.take 40)[k].any.inn.length) c29, .slice A26 ((rows.take 40)[k].any.out.length) c30]) ag100 rfl (At.take (At.drop (ha55.up (Up.trans u59 (Up.trans u70 (Up.trans u81 (Up.trans u92 u108))))) 3) 2) ?_
            refine WL.storeAll (vs := [.slice A25 ((rows.take 40)[k].any.inn.length) c29, .slice A26 ((rows.take 40)[k].any.out.length) c30]) (by rw [ti100]; rfl) rfl rfl (by simp [Value.oneCell']) hb106 rfl (fun w114 hb115 hs116 => ?_)
            have u117 := Stp.var hs116 hm110 mem93
            have e118 := Ext.stp e109 hs116 (fun k hk => by rw [hk]; exact ge98)
            have hm119 := Up.mb u117
            have hO120 := Own.step hO112 hs116 (fun k hk he => no101 (he ▸ hk)) u117 (fun k hk => Own.mem hO112 k hk)
            refine WL.nil ?_
            refine CW.region ?_
            refine WL.move rfl ?_
            refine WL.loadAgg (cs := [.slice A25 ((rows.take 40)[k].any.inn.length) c29, .slice A26 ((rows.take 40)[k].any.out.length) c30]) ag100 rfl (Bk.at_ (M := fun _ => False) hb115 (fun h => h)) ?_
            refine WL.bslice1 (R := RuleR) (y' := (⟨(rows.take 40)[k].any.inn, (rows.take 40)[k].any.out⟩ : PRule)) Try.underlying49 ti100 rfl (by decide) (by decide) rfl ⟨_, _, rfl, SlD.sl (hD33.up (Up.trans u51 (Up.trans u59 (Up.trans u70 (Up.trans u81 (Up.trans u92 (Up.trans u108 u117))))))), SlD.sl (hD34.up (Up.trans u51 (Up.trans u59 (Up.trans u70 (Up.trans u81 (Up.trans u92 (Up.trans u108 u117)))))))⟩ rfl hm119 (fun v121 w122 hS123 he124 => ?_)
            have u125 := Ext.up he124 hm119
            have e126 := Ext.trans e118 he124
            have hm127 := Up.mb u125
            have hO128 := Own.ext hO120 he124 u125 (fun _ h => h)
            refine WL.append Try.underlying49 ti100 rfl (by decide) rfl rfl hO128 hS123 (Stp.size e126) hm127 (by decide) (by simp; omega) (fun v129 w130 M131 hO132 hs133 u134 hsub135 hnew136 => ?_)
            have e137 := Ext.stp e126 hs133 (fun k hk => (Own.base hO128 k hk).1)
            have hm138 := Up.mb u134
            have hb139 := Bk.stp (Bk.ext hb115 he124) hs133 no101
            have mx140 := fun k h => hsub135 k (mx103 k h)
            have hsb141 : ∀ k, M k → M131 k := fun k h => hsub135 k (hsb104 k h)
            have mem142 := hsub135 _ mem93
            refine WL.assign rfl ?_
            refine WL.nil ?_
            refine CW.region ?_
            refine WL.add rfl rfl (by omega) ?_
            refine WL.move rfl ?_
            refine WL.nil ?_
            refine Loop.again _ _ ?_ ?_ ⟨k + 1, v129, M131, rfl, rfl, (Up.trans hU8 (Up.trans u51 (Up.trans u59 (Up.trans u70 (Up.trans u81 (Up.trans u92 (Up.trans u108 (Up.trans u117 (Up.trans u125 u134))))))))), e137, by rw [map_take_succ _ (show k < (rows.take 40).length by omega)]; simpa only [ruleP, hc113, if_true, if_false, Bool.false_eq_true] using hO132, mx140, hsb141, by omega⟩
            · omega
            · exact .cons (t := 3) rfl (.cons (t := 11) rfl (.cons (t := 12) rfl (.cons (t := 13) rfl (.nil _))))
          · refine CW.skip ?_
            refine CW.region ?_
            refine WL.move rfl ?_
            refine WL.loadAgg (cs := [.slice A64 ((unitsP ((rows.take 40)[k].inn)).length) c65, .slice A75 ((unitsP ((rows.take 40)[k].out)).length) c76]) ag100 rfl (Bk.at_ (M := fun _ => False) hb106 (fun h => h)) ?_
            refine WL.bslice1 (R := RuleR) (y' := (⟨unitsP ((rows.take 40)[k].inn), unitsP ((rows.take 40)[k].out)⟩ : PRule)) Try.underlying49 ti100 rfl (by decide) (by decide) rfl ⟨_, _, rfl, SlD.sl (hD66.up (Up.trans u81 (Up.trans u92 u108))), SlD.sl (hD77.up (Up.trans u92 u108))⟩ rfl hm110 (fun v143 w144 hS145 he146 => ?_)
            have u147 := Ext.up he146 hm110
            have e148 := Ext.trans e109 he146
            have hm149 := Up.mb u147
            have hO150 := Own.ext hO112 he146 u147 (fun _ h => h)
            refine WL.append Try.underlying49 ti100 rfl (by decide) rfl rfl hO150 hS145 (Stp.size e148) hm149 (by decide) (by simp; omega) (fun v151 w152 M153 hO154 hs155 u156 hsub157 hnew158 => ?_)
            have e159 := Ext.stp e148 hs155 (fun k hk => (Own.base hO150 k hk).1)
            have hm160 := Up.mb u156
            have hb161 := Bk.stp (Bk.ext hb106 he146) hs155 no101
            have mx162 := fun k h => hsub157 k (mx103 k h)
            have hsb163 : ∀ k, M k → M153 k := fun k h => hsub157 k (hsb104 k h)
            have mem164 := hsub157 _ mem93
            refine WL.assign rfl ?_
            refine WL.nil ?_
            refine CW.region ?_
            refine WL.add rfl rfl (by omega) ?_
            refine WL.move rfl ?_
            refine WL.nil ?_
            refine Loop.again _ _ ?_ ?_ ⟨k + 1, v151, M153, rfl, rfl, (Up.trans hU8 (Up.trans u51 (Up.trans u59 (Up.trans u70 (Up.trans u81 (Up.trans u92 (Up.trans u108 (Up.trans u147 u156)))))))), e159, by rw [map_take_succ _ (show k < (rows.take 40).length by omega)]; simpa only [ruleP, hc113, if_true, if_false, Bool.false_eq_true] using hO154, mx162, hsb163, by omega⟩
            · omega
            · exact .cons (t := 3) rfl (.cons (t := 11) rfl (.cons (t := 12) rfl (.cons (t := 13) rfl (.nil _))))
        · refine WL.alloc (cs := [.slice none 0 0, .slice none 0 0]) ti100 rfl (fun g165 w166 hg167 hb168 he169 => ?_)
          obtain ⟨M170, u171, mem172, hsub173, hinv174⟩ := Ext.addVar he169 hm83 hg167 hb168
          have e175 := Ext.trans e82 he169
          have hm176 := Up.mb u171
          have ge177 := Nat.le_trans (Stp.size e82) hg167
          have ge178 := Nat.le_trans (Stp.size ex85) hg167
          have ex179 := Ext.trans ex85 he169
          have no180 : ¬ Value.ownBlock vl = some g165 := fun hk => by have h1 := (Own.base hO84 _ hk).2; have h2 := hg167; omega
          have hO181 := Own.ext hO84 he169 u171 hsub173
          have mx182 := fun k h => hsub173 k (hsp14 k h)
          have hsb183 : ∀ k, M k → M170 k := fun k h => hsub173 k (hsb12 k h)
          refine WL.nil ?_
          refine DW.only 6 (by kernel_rfl) rfl (fun _ => ex179) ?_
          refine WL.buildP (cs := #[.slice A64 ((unitsP ((rows.take 40)[k].inn)).length) c65, .slice A75 ((unitsP ((rows.take 40)[k].out)).length) c76]) (.cons rfl (.cons rfl (.nil))) (by kernel_rfl) ?_
          refine WL.nil ?_
          refine DW.only 8 (by kernel_rfl) rfl (fun _ => ex179) ?_
          refine WL.storeAll (vs := [.slice A64 ((unitsP ((rows.take 40)[k].inn)).length) c65, .slice A75 ((unitsP ((rows.take 40)[k].out)).length) c76]) (by rw [ti100]; rfl) rfl rfl (by simp [Value.oneCell']) hb168 rfl (fun w184 hb185 hs186 => ?_)
          have u187 := Stp.var hs186 hm176 mem172
          have e188 := Ext.stp e175 hs186 (fun k hk => by rw [hk]; exact ge177)
          have hm189 := Up.mb u187
          have ex190 := Ext.stp ex179 hs186 (fun k hk => by rw [hk]; exact ge178)
          have hO191 := Own.step hO181 hs186 (fun k hk he => no180 (he ▸ hk)) u187 (fun k hk => Own.mem hO181 k hk)
          refine WL.nil ?_
          refine DW.done (by kernel_rfl) (fun _ => ex190) ?_
          refine CW.seq ?_
          refine CW.seq ?_
          refine CW.region ?_
          refine WL.fieldAddr fo157_2 rfl ?_
          refine WL.load sc4 rfl ((ha55.up (Up.trans u59 (Up.trans u70 (Up.trans u81 (Up.trans u171 u187))))).cell 2 _ rfl) ?_
          refine WL.nil ?_
          refine CW.condB rfl (fun hc192 => ?_) (fun hc192 => ?_)
          · refine CW.region ?_
            refine WL.fieldAddr fo157_3 rfl ?_
            refine WL.loadAgg (cs := [.slice A25 ((rows.take 40)[k].any.inn.length) c29, .slice A26 ((rows.take 40)[k].any.out.length) c30]) ag100 rfl (At.take (At.drop (ha55.up (Up.trans u59 (Up.trans u70 (Up.trans u81 (Up.trans u171 u187))))) 3) 2) ?_
            refine WL.storeAll (vs := [.slice A25 ((rows.take 40)[k].any.inn.length) c29, .slice A26 ((rows.take 40)[k].any.out.length) c30]) (by rw [ti100]; rfl) rfl rfl (by simp [Value.oneCell']) hb185 rfl (fun w193 hb194 hs195 => ?_)
            have u196 := Stp.var hs195 hm189 mem172
            have e197 := Ext.stp e188 hs195 (fun k hk => by rw [hk]; exact ge177)
            have hm198 := Up.mb u196
            have hO199 := Own.step hO191 hs195 (fun k hk he => no180 (he ▸ hk)) u196 (fun k hk => Own.mem hO191 k hk)
            refine WL.nil ?_
            refine CW.region ?_
            refine WL.move rfl ?_
            refine WL.loadAgg (cs := [.slice A25 ((rows.take 40)[k].any.inn.length) c29, .slice A26 ((rows.take 40)[k].any.out.length) c30]) ag100 rfl (Bk.at_ (M := fun _ => False) hb194 (fun h => h)) ?_
            refine WL.bslice1 (R := RuleR) (y' := (⟨(rows.take 40)[k].any.inn, (rows.take 40)[k].any.out⟩ : PRule)) Try.underlying49 ti100 rfl (by decide) (by decide) rfl ⟨_, _, rfl, SlD.sl (hD33.up (Up.trans u51 (Up.trans u59 (Up.trans u70 (Up.trans u81 (Up.trans u171 (Up.trans u187 u196))))))), SlD.sl (hD34.up (Up.trans u51 (Up.trans u59 (Up.trans u70 (Up.trans u81 (Up.trans u171 (Up.trans u187 u196)))))))⟩ rfl hm198 (fun v200 w201 hS202 he203 => ?_)
            have u204 := Ext.up he203 hm198
            have e205 := Ext.trans e197 he203
            have hm206 := Up.mb u204
            have hO207 := Own.ext hO199 he203 u204 (fun _ h => h)
            refine WL.append Try.underlying49 ti100 rfl (by decide) rfl rfl hO207 hS202 (Stp.size e205) hm206 (by decide) (by simp; omega) (fun v208 w209 M210 hO211 hs212 u213 hsub214 hnew215 => ?_)
            have e216 := Ext.stp e205 hs212 (fun k hk => (Own.base hO207 k hk).1)
            have hm217 := Up.mb u213
            have hb218 := Bk.stp (Bk.ext hb194 he203) hs212 no180
            have mx219 := fun k h => hsub214 k (mx182 k h)
            have hsb220 : ∀ k, M k → M210 k := fun k h => hsub214 k (hsb183 k h)
            have mem221 := hsub214 _ mem172
            refine WL.assign rfl ?_
            refine WL.nil ?_
            refine CW.region ?_
            refine WL.add rfl rfl (by omega) ?_
            refine WL.move rfl ?_
            refine WL.nil ?_
            refine Loop.again _ _ ?_ ?_ ⟨k + 1, v208, M210, rfl, rfl, (Up.trans hU8 (Up.trans u51 (Up.trans u59 (Up.trans u70 (Up.trans u81 (Up.trans u171 (Up.trans u187 (Up.trans u196 (Up.trans u204 u213))))))))), e216, by rw [map_take_succ _ (show k < (rows.take 40).length by omega)]; simpa only [ruleP, hc192, if_true, if_false, Bool.false_eq_true] using hO211, mx219, hsb220, by omega⟩
            · omega
            · exact .cons (t := 3) rfl (.cons (t := 11) rfl (.cons (t := 12) rfl (.cons (t := 13) rfl (.nil _))))
          · refine CW.skip ?_
            refine CW.region ?_
            refine WL.move rfl ?_
            refine WL.loadAgg (cs := [.slice A64 ((unitsP ((rows.take 40)[k].inn)).length) c65, .slice A75 ((unitsP ((rows.take 40)[k].out)).length) c76]) ag100 rfl (Bk.at_ (M := fun _ => False) hb185 (fun h => h)) ?_
            refine WL.bslice1 (R := RuleR) (y' := (⟨unitsP ((rows.take 40)[k].inn), unitsP ((rows.take 40)[k].out)⟩ : PRule)) Try.underlying49 ti100 rfl (by decide) (by decide) rfl ⟨_, _, rfl, SlD.sl (hD66.up (Up.trans u81 (Up.trans u171 u187))), SlD.sl (hD77.up (Up.trans u171 u187))⟩ rfl hm189 (fun v222 w223 hS224 he225 => ?_)
            have u226 := Ext.up he225 hm189
            have e227 := Ext.trans e188 he225
            have hm228 := Up.mb u226
            have hO229 := Own.ext hO191 he225 u226 (fun _ h => h)
            refine WL.append Try.underlying49 ti100 rfl (by decide) rfl rfl hO229 hS224 (Stp.size e227) hm228 (by decide) (by simp; omega) (fun v230 w231 M232 hO233 hs234 u235 hsub236 hnew237 => ?_)
            have e238 := Ext.stp e227 hs234 (fun k hk => (Own.base hO229 k hk).1)
            have hm239 := Up.mb u235
            have hb240 := Bk.stp (Bk.ext hb185 he225) hs234 no180
            have mx241 := fun k h => hsub236 k (mx182 k h)
            have hsb242 : ∀ k, M k → M232 k := fun k h => hsub236 k (hsb183 k h)
            have mem243 := hsub236 _ mem172
            refine WL.assign rfl ?_
            refine WL.nil ?_
            refine CW.region ?_
            refine WL.add rfl rfl (by omega) ?_
            refine WL.move rfl ?_
            refine WL.nil ?_
            refine Loop.again _ _ ?_ ?_ ⟨k + 1, v230, M232, rfl, rfl, (Up.trans hU8 (Up.trans u51 (Up.trans u59 (Up.trans u70 (Up.trans u81 (Up.trans u171 (Up.trans u187 (Up.trans u226 u235)))))))), e238, by rw [map_take_succ _ (show k < (rows.take 40).length by omega)]; simpa only [ruleP, hc192, if_true, if_false, Bool.false_eq_true] using hO233, mx241, hsb242, by omega⟩
            · omega
            · exact .cons (t := 3) rfl (.cons (t := 11) rfl (.cons (t := 12) rfl (.cons (t := 13) rfl (.nil _))))
      · refine WL.alloc (cs := [.slice none 0 0, .slice none 0 0]) ti100 rfl (fun g244 w245 hg246 hb247 he248 => ?_)
        obtain ⟨M249, u250, mem251, hsub252, hinv253⟩ := Ext.addVar he248 hm72 hg246 hb247
        have e254 := Ext.trans e71 he248
        have hm255 := Up.mb u250
        have ge256 := Nat.le_trans (Stp.size e71) hg246
        have ge257 := Nat.le_trans (Stp.size ex74) hg246
        have ex258 := Ext.trans ex74 he248
        have no259 : ¬ Value.ownBlock vl = some g244 := fun hk => by have h1 := (Own.base hO73 _ hk).2; have h2 := hg246; omega
        have hO260 := Own.ext hO73 he248 u250 hsub252
        have mx261 := fun k h => hsub252 k (hsp14 k h)
        have hsb262 : ∀ k, M k → M249 k := fun k h => hsub252 k (hsb12 k h)
        refine WL.nil ?_
        refine DW.only 5 (by kernel_rfl) rfl (fun _ => ex258) ?_
        refine WL.call Try.func107 rfl rfl (.cons rfl (.cons rfl (.nil))) (units_spec _ _ hm255 (hD32.up (Up.trans u51 (Up.trans u59 (Up.trans u70 u250))))) (fun _ w266 hr267 => ?_)
        obtain ⟨⟨A263, c264, rfl, hD265⟩, he268⟩ := hr267
        have u269 := Ext.up he268 hm255
        have e270 := Ext.trans e254 he268
        have hm271 := Up.mb u269
        have hO272 := Own.ext hO260 he268 u269 (fun _ h => h)
        have ex273 := Ext.trans ex258 he268
        refine WL.nil ?_
        refine DW.only 6 (by kernel_rfl) rfl (fun _ => ex273) ?_
        refine WL.buildP (cs := #[.slice A64 ((unitsP ((rows.take 40)[k].inn)).length) c65, .slice A263 ((unitsP ((rows.take 40)[k].out)).length) c264]) (.cons rfl (.cons rfl (.nil))) (by kernel_rfl) ?_
        refine WL.nil ?_
        refine DW.only 8 (by kernel_rfl) rfl (fun _ => ex273) ?_
        refine WL.storeAll (vs := [.slice A64 ((unitsP ((rows.take 40)[k].inn)).length) c65, .slice A263 ((unitsP ((rows.take 40)[k].out)).length) c264]) (by rw [ti100]; rfl) rfl rfl (by simp [Value.oneCell']) (Bk.ext hb247 he268) rfl (fun w274 hb275 hs276 => ?_)
        have u277 := Stp.var hs276 hm271 mem251
        have e278 := Ext.stp e270 hs276 (fun k hk => by rw [hk]; exact ge256)
        have hm279 := Up.mb u277
        have ex280 := Ext.stp ex273 hs276 (fun k hk => by rw [hk]; exact ge257)
        have hO281 := Own.step hO272 hs276 (fun k hk he => no259 (he ▸ hk)) u277 (fun k hk => Own.mem hO272 k hk)
        refine WL.nil ?_
        refine DW.done (by kernel_rfl) (fun _ => ex280) ?_
        refine CW.seq ?_
        refine CW.seq ?_
        refine CW.region ?_
        refine WL.fieldAddr fo157_2 rfl ?_
        refine WL.load sc4 rfl ((ha55.up (Up.trans u59 (Up.trans u70 (Up.trans u250 (Up.trans u269 u277))))).cell 2 _ rfl) ?_
        refine WL.nil ?_
        refine CW.condB rfl (fun hc282 => ?_) (fun hc282 => ?_)
        · refine CW.region ?_
          refine WL.fieldAddr fo157_3 rfl ?_
          refine WL.loadAgg (cs := [.slice A25 ((rows.take 40)[k].any.inn.length) c29, .slice A26 ((rows.take 40)[k].any.out.length) c30]) ag100 rfl (At.take (At.drop (ha55.up (Up.trans u59 (Up.trans u70 (Up.trans u250 (Up.trans u269 u277))))) 3) 2) ?_
          refine WL.storeAll (vs := [.slice A25 ((rows.take 40)[k].any.inn.length) c29, .slice A26 ((rows.take 40)[k].any.out.length) c30]) (by rw [ti100]; rfl) rfl rfl (by simp [Value.oneCell']) hb275 rfl (fun w283 hb284 hs285 => ?_)
          have u286 := Stp.var hs285 hm279 mem251
          have e287 := Ext.stp e278 hs285 (fun k hk => by rw [hk]; exact ge256)
          have hm288 := Up.mb u286
          have hO289 := Own.step hO281 hs285 (fun k hk he => no259 (he ▸ hk)) u286 (fun k hk => Own.mem hO281 k hk)
          refine WL.nil ?_
          refine CW.region ?_
          refine WL.move rfl ?_
          refine WL.loadAgg (cs := [.slice A25 ((rows.take 40)[k].any.inn.length) c29, .slice A26 ((rows.take 40)[k].any.out.length) c30]) ag100 rfl (Bk.at_ (M := fun _ => False) hb284 (fun h => h)) ?_
          refine WL.bslice1 (R := RuleR) (y' := (⟨(rows.take 40)[k].any.inn, (rows.take 40)[k].any.out⟩ : PRule)) Try.underlying49 ti100 rfl (by decide) (by decide) rfl ⟨_, _, rfl, SlD.sl (hD33.up (Up.trans u51 (Up.trans u59 (Up.trans u70 (Up.trans u250 (Up.trans u269 (Up.trans u277 u286))))))), SlD.sl (hD34.up (Up.trans u51 (Up.trans u59 (Up.trans u70 (Up.trans u250 (Up.trans u269 (Up.trans u277 u286)))))))⟩ rfl hm288 (fun v290 w291 hS292 he293 => ?_)
          have u294 := Ext.up he293 hm288
          have e295 := Ext.trans e287 he293
          have hm296 := Up.mb u294
          have hO297 := Own.ext hO289 he293 u294 (fun _ h => h)
          refine WL.append Try.underlying49 ti100 rfl (by decide) rfl rfl hO297 hS292 (Stp.size e295) hm296 (by decide) (by simp; omega) (fun v298 w299 M300 hO301 hs302 u303 hsub304 hnew305 => ?_)
          have e306 := Ext.stp e295 hs302 (fun k hk => (Own.base hO297 k hk).1)
          have hm307 := Up.mb u303
          have hb308 := Bk.stp (Bk.ext hb284 he293) hs302 no259
          have mx309 := fun k h => hsub304 k (mx261 k h)
          have hsb310 : ∀ k, M k → M300 k := fun k h => hsub304 k (hsb262 k h)
          have mem311 := hsub304 _ mem251
          refine WL.assign rfl ?_
          refine WL.nil ?_
          refine CW.region ?_
          refine WL.add rfl rfl (by omega) ?_
          refine WL.move rfl ?_
          refine WL.nil ?_
          refine Loop.again _ _ ?_ ?_ ⟨k + 1, v298, M300, rfl, rfl, (Up.trans hU8 (Up.trans u51 (Up.trans u59 (Up.trans u70 (Up.trans u250 (Up.trans u269 (Up.trans u277 (Up.trans u286 (Up.trans u294 u303))))))))), e306, by rw [map_take_succ _ (show k < (rows.take 40).length by omega)]; simpa only [ruleP, hc282, if_true, if_false, Bool.false_eq_true] using hO301, mx309, hsb310, by omega⟩
          · omega
          · exact .cons (t := 3) rfl (.cons (t := 11) rfl (.cons (t := 12) rfl (.cons (t := 13) rfl (.nil _))))
        · refine CW.skip ?_
          refine CW.region ?_
          refine WL.move rfl ?_
          refine WL.loadAgg (cs := [.slice A64 ((unitsP ((rows.take 40)[k].inn)).length) c65, .slice A263 ((unitsP ((rows.take 40)[k].out)).length) c264]) ag100 rfl (Bk.at_ (M := fun _ => False) hb275 (fun h => h)) ?_
          refine WL.bslice1 (R := RuleR) (y' := (⟨unitsP ((rows.take 40)[k].inn), unitsP ((rows.take 40)[k].out)⟩ : PRule)) Try.underlying49 ti100 rfl (by decide) (by decide) rfl ⟨_, _, rfl, SlD.sl (hD66.up (Up.trans u250 (Up.trans u269 u277))), SlD.sl (hD265.up u277)⟩ rfl hm279 (fun v312 w313 hS314 he315 => ?_)
          have u316 := Ext.up he315 hm279
          have e317 := Ext.trans e278 he315
          have hm318 := Up.mb u316
          have hO319 := Own.ext hO281 he315 u316 (fun _ h => h)
          refine WL.append Try.underlying49 ti100 rfl (by decide) rfl rfl hO319 hS314 (Stp.size e317) hm318 (by decide) (by simp; omega) (fun v320 w321 M322 hO323 hs324 u325 hsub326 hnew327 => ?_)
          have e328 := Ext.stp e317 hs324 (fun k hk => (Own.base hO319 k hk).1)
          have hm329 := Up.mb u325
          have hb330 := Bk.stp (Bk.ext hb275 he315) hs324 no259
          have mx331 := fun k h => hsub326 k (mx261 k h)
          have hsb332 : ∀ k, M k → M322 k := fun k h => hsub326 k (hsb262 k h)
          have mem333 := hsub326 _ mem251
          refine WL.assign rfl ?_
          refine WL.nil ?_
          refine CW.region ?_
          refine WL.add rfl rfl (by omega) ?_
          refine WL.move rfl ?_
          refine WL.nil ?_
          refine Loop.again _ _ ?_ ?_ ⟨k + 1, v320, M322, rfl, rfl, (Up.trans hU8 (Up.trans u51 (Up.trans u59 (Up.trans u70 (Up.trans u250 (Up.trans u269 (Up.trans u277 (Up.trans u316 u325)))))))), e328, by rw [map_take_succ _ (show k < (rows.take 40).length by omega)]; simpa only [ruleP, hc282, if_true, if_false, Bool.false_eq_true] using hO323, mx331, hsb332, by omega⟩
          · omega
          · exact .cons (t := 3) rfl (.cons (t := 11) rfl (.cons (t := 12) rfl (.cons (t := 13) rfl (.nil _))))
    · refine WL.alloc (cs := [.slice none 0 0, .slice none 0 0]) ti100 rfl (fun g334 w335 hg336 hb337 he338 => ?_)
      obtain ⟨M339, u340, mem341, hsub342, hinv343⟩ := Ext.addVar he338 hm61 hg336 hb337
      have e344 := Ext.trans e60 he338
      have hm345 := Up.mb u340
      have ge346 := Nat.le_trans (Stp.size e60) hg336
      have ge347 := Nat.le_trans (Stp.size ex63) hg336
      have ex348 := Ext.trans ex63 he338
      have no349 : ¬ Value.ownBlock vl = some g334 := fun hk => by have h1 := (Own.base hO62 _ hk).2; have h2 := hg336; omega
      have hO350 := Own.ext hO62 he338 u340 hsub342
      have mx351 := fun k h => hsub342 k (hsp14 k h)
      have hsb352 : ∀ k, M k → M339 k := fun k h => hsub342 k (hsb12 k h)
      refine WL.nil ?_
      refine DW.only 2 (by kernel_rfl) rfl (fun _ => ex348) ?_
      refine WL.call Try.func107 rfl rfl (.cons rfl (.cons rfl (.nil))) (units_spec _ _ hm345 (hD31.up (Up.trans u51 (Up.trans u59 u340)))) (fun _ w356 hr357 => ?_)
      obtain ⟨⟨A353, c354, rfl, hD355⟩, he358⟩ := hr357
      have u359 := Ext.up he358 hm345
      have e360 := Ext.trans e344 he358
      have hm361 := Up.mb u359
      have hO362 := Own.ext hO350 he358 u359 (fun _ h => h)
      have ex363 := Ext.trans ex348 he358
      refine WL.nil ?_
      refine DW.only 5 (by kernel_rfl) rfl (fun _ => ex363) ?_
      refine WL.call Try.func107 rfl rfl (.cons rfl (.cons rfl (.nil))) (units_spec _ _ hm361 (hD32.up (Up.trans u51 (Up.trans u59 (Up.trans u340 u359))))) (fun _ w367 hr368 => ?_)
      obtain ⟨⟨A364, c365, rfl, hD366⟩, he369⟩ := hr368
      have u370 := Ext.up he369 hm361
      have e371 := Ext.trans e360 he369
      have hm372 := Up.mb u370
      have hO373 := Own.ext hO362 he369 u370 (fun _ h => h)
      have ex374 := Ext.trans ex363 he369
      refine WL.nil ?_
      refine DW.only 6 (by kernel_rfl) rfl (fun _ => ex374) ?_
      refine WL.buildP (cs := #[.slice A353 ((unitsP ((rows.take 40)[k].inn)).length) c354, .slice A364 ((unitsP ((rows.take 40)[k].out)).length) c365]) (.cons rfl (.cons rfl (.nil))) (by kernel_rfl) ?_
      refine WL.nil ?_
      refine DW.only 8 (by kernel_rfl) rfl (fun _ => ex374) ?_
      refine WL.storeAll (vs := [.slice A353 ((unitsP ((rows.take 40)[k].inn)).length) c354, .slice A364 ((unitsP ((rows.take 40)[k].out)).length) c365]) (by rw [ti100]; rfl) rfl rfl (by simp [Value.oneCell']) (Bk.ext (Bk.ext hb337 he358) he369) rfl (fun w375 hb376 hs377 => ?_)
      have u378 := Stp.var hs377 hm372 mem341
      have e379 := Ext.stp e371 hs377 (fun k hk => by rw [hk]; exact ge346)
      have hm380 := Up.mb u378
      have ex381 := Ext.stp ex374 hs377 (fun k hk => by rw [hk]; exact ge347)
      have hO382 := Own.step hO373 hs377 (fun k hk he => no349 (he ▸ hk)) u378 (fun k hk => Own.mem hO373 k hk)
      refine WL.nil ?_
      refine DW.done (by kernel_rfl) (fun _ => ex381) ?_
      refine CW.seq ?_
      refine CW.seq ?_
      refine CW.region ?_
      refine WL.fieldAddr fo157_2 rfl ?_
      refine WL.load sc4 rfl ((ha55.up (Up.trans u59 (Up.trans u340 (Up.trans u359 (Up.trans u370 u378))))).cell 2 _ rfl) ?_
      refine WL.nil ?_
      refine CW.condB rfl (fun hc383 => ?_) (fun hc383 => ?_)
      · refine CW.region ?_
        refine WL.fieldAddr fo157_3 rfl ?_
        refine WL.loadAgg (cs := [.slice A25 ((rows.take 40)[k].any.inn.length) c29, .slice A26 ((rows.take 40)[k].any.out.length) c30]) ag100 rfl (At.take (At.drop (ha55.up (Up.trans u59 (Up.trans u340 (Up.trans u359 (Up.trans u370 u378))))) 3) 2) ?_
        refine WL.storeAll (vs := [.slice A25 ((rows.take 40)[k].any.inn.length) c29, .slice A26 ((rows.take 40)[k].any.out.length) c30]) (by rw [ti100]; rfl) rfl rfl (by simp [Value.oneCell']) hb376 rfl (fun w384 hb385 hs386 => ?_)
        have u387 := Stp.var hs386 hm380 mem341
        have e388 := Ext.stp e379 hs386 (fun k hk => by rw [hk]; exact ge346)
        have hm389 := Up.mb u387
        have hO390 := Own.step hO382 hs386 (fun k hk he => no349 (he ▸ hk)) u387 (fun k hk => Own.mem hO382 k hk)
        refine WL.nil ?_
        refine CW.region ?_
        refine WL.move rfl ?_
        refine WL.loadAgg (cs := [.slice A25 ((rows.take 40)[k].any.inn.length) c29, .slice A26 ((rows.take 40)[k].any.out.length) c30]) ag100 rfl (Bk.at_ (M := fun _ => False) hb385 (fun h => h)) ?_
        refine WL.bslice1 (R := RuleR) (y' := (⟨(rows.take 40)[k].any.inn, (rows.take 40)[k].any.out⟩ : PRule)) Try.underlying49 ti100 rfl (by decide) (by decide) rfl ⟨_, _, rfl, SlD.sl (hD33.up (Up.trans u51 (Up.trans u59 (Up.trans u340 (Up.trans u359 (Up.trans u370 (Up.trans u378 u387))))))), SlD.sl (hD34.up (Up.trans u51 (Up.trans u59 (Up.trans u340 (Up.trans u359 (Up.trans u370 (Up.trans u378 u387)))))))⟩ rfl hm389 (fun v391 w392 hS393 he394 => ?_)
        have u395 := Ext.up he394 hm389
        have e396 := Ext.trans e388 he394
        have hm397 := Up.mb u395
        have hO398 := Own.ext hO390 he394 u395 (fun _ h => h)
        refine WL.append Try.underlying49 ti100 rfl (by decide) rfl rfl hO398 hS393 (Stp.size e396) hm397 (by decide) (by simp; omega) (fun v399 w400 M401 hO402 hs403 u404 hsub405 hnew406 => ?_)
        have e407 := Ext.stp e396 hs403 (fun k hk => (Own.base hO398 k hk).1)
        have hm408 := Up.mb u404
        have hb409 := Bk.stp (Bk.ext hb385 he394) hs403 no349
        have mx410 := fun k h => hsub405 k (mx351 k h)
        have hsb411 : ∀ k, M k → M401 k := fun k h => hsub405 k (hsb352 k h)
        have mem412 := hsub405 _ mem341
        refine WL.assign rfl ?_
        refine WL.nil ?_
        refine CW.region ?_
        refine WL.add rfl rfl (by omega) ?_
        refine WL.move rfl ?_
        refine WL.nil ?_
        refine Loop.again _ _ ?_ ?_ ⟨k + 1, v399, M401, rfl, rfl, (Up.trans hU8 (Up.trans u51 (Up.trans u59 (Up.trans u340 (Up.trans u359 (Up.trans u370 (Up.trans u378 (Up.trans u387 (Up.trans u395 u404))))))))), e407, by rw [map_take_succ _ (show k < (rows.take 40).length by omega)]; simpa only [ruleP, hc383, if_true, if_false, Bool.false_eq_true] using hO402, mx410, hsb411, by omega⟩
        · omega
        · exact .cons (t := 3) rfl (.cons (t := 11) rfl (.cons (t := 12) rfl (.cons (t := 13) rfl (.nil _))))
      · refine CW.skip ?_
        refine CW.region ?_
        refine WL.move rfl ?_
        refine WL.loadAgg (cs := [.slice A353 ((unitsP ((rows.take 40)[k].inn)).length) c354, .slice A364 ((unitsP ((rows.take 40)[k].out)).length) c365]) ag100 rfl (Bk.at_ (M := fun _ => False) hb376 (fun h => h)) ?_
        refine WL.bslice1 (R := RuleR) (y' := (⟨unitsP ((rows.take 40)[k].inn), unitsP ((rows.take 40)[k].out)⟩ : PRule)) Try.underlying49 ti100 rfl (by decide) (by decide) rfl ⟨_, _, rfl, SlD.sl (hD355.up (Up.trans u370 u378)), SlD.sl (hD366.up u378)⟩ rfl hm380 (fun v413 w414 hS415 he416 => ?_)
        have u417 := Ext.up he416 hm380
        have e418 := Ext.trans e379 he416
        have hm419 := Up.mb u417
        have hO420 := Own.ext hO382 he416 u417 (fun _ h => h)
        refine WL.append Try.underlying49 ti100 rfl (by decide) rfl rfl hO420 hS415 (Stp.size e418) hm419 (by decide) (by simp; omega) (fun v421 w422 M423 hO424 hs425 u426 hsub427 hnew428 => ?_)
        have e429 := Ext.stp e418 hs425 (fun k hk => (Own.base hO420 k hk).1)
        have hm430 := Up.mb u426
        have hb431 := Bk.stp (Bk.ext hb376 he416) hs425 no349
        have mx432 := fun k h => hsub427 k (mx351 k h)
        have hsb433 : ∀ k, M k → M423 k := fun k h => hsub427 k (hsb352 k h)
        have mem434 := hsub427 _ mem341
        refine WL.assign rfl ?_
        refine WL.nil ?_
        refine CW.region ?_
        refine WL.add rfl rfl (by omega) ?_
        refine WL.move rfl ?_
        refine WL.nil ?_
        refine Loop.again _ _ ?_ ?_ ⟨k + 1, v421, M423, rfl, rfl, (Up.trans hU8 (Up.trans u51 (Up.trans u59 (Up.trans u340 (Up.trans u359 (Up.trans u370 (Up.trans u378 (Up.trans u417 u426)))))))), e429, by rw [map_take_succ _ (show k < (rows.take 40).length by omega)]; simpa only [ruleP, hc383, if_true, if_false, Bool.false_eq_true] using hO424, mx432, hsb433, by omega⟩
        · omega
        · exact .cons (t := 3) rfl (.cons (t := 11) rfl (.cons (t := 12) rfl (.cons (t := 13) rfl (.nil _))))
  · refine CW.exit ?_
    refine CW.seq ?_
    refine CW.region ?_
    refine WL.move rfl ?_
    refine WL.assign rfl ?_
    refine WL.nil ?_
    refine CW.ret ?_
    refine Ret.one rfl rfl ?_
    have hk2 : k = (rows.take 40).length := by omega
    subst hk2
    exact ⟨by have := Own.read0 hO11 hm10 hsb12 hm; rwa [List.take_length] at this, hE9⟩

theorem Right_spec (w : World) (M : MS) (hm : MB w M) {Ap1 : Option Addr} {cp1 : Nat} {rows : List PRow} (h1 : SlD RowR 5 w M Ap1 cp1 rows) :
    Fc Try.prog 66 #[.slice Ap1 rows.length cp1] w fun v w' => Sl RuleR 2 w' M v (rightP (rulesP rows)) ∧ Ext w w' := by
  have e0 := Stp.refl w (fun _ => False)
  have hlim := h1.lim
  have hl40 : (rulesP rows).length ≤ 40 := by simp [rulesP]; omega
  refine Fc.enter (n := 34) [(0, .slice Ap1 rows.length cp1)] Try.func66 rfl rfl (Nat.le_of_ble_eq_true rfl) (.cons rfl (.nil _)) ?_
  refine CW.seq ?_
  refine CW.region ?_
  refine WL.assign rfl ?_
  refine WL.nil ?_
  refine CW.seq ?_
  refine CW.region ?_
  refine WL.assign rfl ?_
  refine WL.nil ?_
  refine CW.seq ?_
  refine CW.seq ?_
  refine CW.region ?_
  refine WL.move rfl ?_
  refine WL.call Try.func89 rfl rfl (.cons rfl (.nil)) (Rules_spec _ _ hm h1) (fun _ w4 hr5 => ?_)
  obtain ⟨⟨A1, c2, rfl, hD3⟩, he6⟩ := hr5
  have u7 := Ext.up he6 hm
  have e8 := Ext.trans e0 he6
  have hm9 := Up.mb u7
  refine WL.len Try.underlying49 rfl ?_
  refine WL.move rfl ?_
  refine WL.nil ?_
  refine CW.block ?_
  refine CW.loop (fun m σ wr0 => ∃ k : Nat, ∃ vl : Value, ∃ Mr10 : MS, m = (rulesP rows).length - k ∧ σ = [(3, vl), (7, .slice A1 ((rulesP (rows)).length) c2), (8, .int .i64 ((rulesP (rows)).length : Int)), (9, .int .i64 (k : Int))] ∧ (Up w4 M wr0 Mr10) ∧ (Ext w wr0) ∧ (Own RuleR 2 100 wr0 Mr10 w.heap.size vl (((rulesP rows).take k).foldl rightStep [])) ∧ (∀ k, M k → Mr10 k) ∧ (∀ k, M k → Mr10 k) ∧ (k ≤ (rulesP rows).length)) _ _ (.cons (t := 3) rfl (.cons (t := 7) rfl (.cons (t := 8) rfl (.cons (t := 9) rfl (.nil _))))) ⟨0, (.slice none 0 0), M, rfl, rfl, Up.refl hm9, e8, by simpa using Own.nil, fun _ h => h, (fun _ h => h), by omega⟩ ?_
  rintro m _ wr0 ⟨k, vl, Mr10, rfl, rfl, hU11, hE12, hO14, hsp17, hsb15, hk⟩
  have hm13 := Up.mb hU11
  have hl2 := rightFold_len ((rulesP rows).take k) []
  have hl3 : ((rulesP rows).take k).length ≤ 40 := by simp; omega
  simp only [List.length_nil, Nat.zero_add] at hl2
  refine CW.seq ?_
  refine CW.region ?_
  refine WL.lss rfl rfl ?_
  refine WL.nil ?_
  refine CW.seq ?_
  refine CW.condP rfl (fun hc18 => ?_) (fun hc18 => ?_)
  · refine CW.skip ?_
    refine CW.seq ?_
    refine CW.block ?_
    refine CW.seq ?_
    refine CW.region ?_
    have hlt19 : k < (rulesP (rows)).length := by omega
    obtain ⟨ad20, cs21, hA22, hs23, hat24, hR25⟩ := SlD.get (hD3.up hU11) (List.getElem?_eq_getElem hlt19)
    obtain ⟨_, _, hx30, ⟨A26, c27, rfl, hD31⟩, ⟨A28, c29, rfl, hD32⟩⟩ := hR25
    rw [hx30] at hat24
    have hl33 := SlD.lim hD31
    have hl34 := SlD.lim hD32
    refine WL.idx es49 rfl rfl hA22 (by omega) (by omega) ?_
    refine WL.loadAgg (cs := [.slice A26 ((rulesP (rows))[k].inn.length) c27, .slice A28 ((rulesP (rows))[k].out.length) c29]) ag100 rfl hat24 ?_
    refine WL.alloc (cs := [.slice none 0 0, .slice none 0 0]) ti100 rfl (fun g35 w36 hg37 hb38 he39 => ?_)
    have u40 := Ext.up he39 hm13
    have e41 := Ext.trans hE12 he39
    have hm42 := Up.mb u40
    have hO43 := Own.ext hO14 he39 u40 (fun _ h => h)
    have hb47 := hb38
    refine WL.storeAll (vs := [.slice A26 ((rulesP (rows))[k].inn.length) c27, .slice A28 ((rulesP (rows))[k].out.length) c29]) (by rw [ti100]; rfl) rfl rfl (by simp [Value.oneCell']) hb47 rfl (fun w44 hb45 hs46 => ?_)
    have he48 : Ext wr0 w44 := Stp.trans he39 hs46 (fun k hk => .inr (by rw [hk]; exact hg37))
    have hn49 := MB.fresh hm13 hg37
    have u50 := Ext.up he48 hm13
    have e51 := Ext.trans hE12 he48
    have hm52 := Up.mb u50
    have hO53 := Own.ext hO14 he48 u50 (fun _ h => h)
    have ha54 := Bk.at_ hb45 hn49
    refine WL.nil ?_
    refine CW.seq ?_
    refine CW.region ?_
    refine WL.fieldAddr fo100_0 rfl ?_
    refine WL.load sc29 rfl (ha54.cell 0 _ rfl) ?_
    refine WL.call Try.func90 rfl rfl (.cons rfl (.nil)) (may_spec _ _ hm52 (hD31.up u50)) (fun _ w55 hr56 => ?_)
    obtain ⟨rfl, he57⟩ := hr56
    have u58 := Ext.up he57 hm52
    have e59 := Ext.trans e51 he57
    have hm60 := Up.mb u58
    have hO61 := Own.ext hO53 he57 u58 (fun _ h => h)
    refine WL.move rfl ?_
    cases hg62 : mayP ((rulesP (rows))[k].inn)
    · refine WL.gskip rfl rfl rfl ?_
      refine WL.gskip rfl rfl rfl ?_
      refine WL.gskip rfl rfl rfl ?_
      refine WL.pickF rfl rfl ?_
      refine WL.move rfl ?_
      refine WL.gskip rfl rfl rfl ?_
      refine WL.gskip rfl rfl rfl ?_
      refine WL.gskip rfl rfl rfl ?_
      refine WL.gskip rfl rfl rfl ?_
      refine WL.gskip rfl rfl rfl ?_
      refine WL.pickF rfl rfl ?_
      refine WL.nil ?_
      refine CW.condF rfl ?_
      refine CW.skip ?_
      refine CW.region ?_
      refine WL.add rfl rfl (by omega) ?_
      refine WL.move rfl ?_
      refine WL.nil ?_
      refine Loop.again _ _ ?_ ?_ ⟨k + 1, vl, Mr10, rfl, rfl, (Up.trans hU11 (Up.trans u50 u58)), e59, by rw [foldl_take_succ _ _ (show k < (rulesP rows).length by omega), rightStep, if_neg (by simp [*])]; exact hO61, hsp17, hsb15, by omega⟩
      · omega
      · exact .cons (t := 3) rfl (.cons (t := 7) rfl (.cons (t := 8) rfl (.cons (t := 9) rfl (.nil _))))
    · refine WL.gtake rfl rfl rfl ?_
      refine WL.fieldAddr fo100_1 rfl ?_
      refine WL.gtake rfl rfl rfl ?_
      refine WL.load sc29 rfl ((ha54.up u58).cell 1 _ rfl) ?_
      refine WL.gtake rfl rfl rfl ?_
      refine WL.call Try.func90 rfl rfl (.cons rfl (.nil)) (may_spec _ _ hm60 (hD32.up (Up.trans u50 u58))) (fun _ w63 hr64 => ?_)
      obtain ⟨rfl, he65⟩ := hr64
      have u66 := Ext.up he65 hm60
      have e67 := Ext.trans e59 he65
      have hm68 := Up.mb u66
      have hO69 := Own.ext hO61 he65 u66 (fun _ h => h)
      refine WL.pickT rfl rfl ?_
      refine WL.move rfl ?_
      cases hg70 : mayP ((rulesP (rows))[k].out)
      · refine WL.gskip rfl rfl rfl ?_
        refine WL.gskip rfl rfl rfl ?_
        refine WL.gskip rfl rfl rfl ?_
        refine WL.gskip rfl rfl rfl ?_
        refine WL.gskip rfl rfl rfl ?_
        refine WL.pickF rfl rfl ?_
        refine WL.nil ?_
        refine CW.condF rfl ?_
        refine CW.skip ?_
        refine CW.region ?_
        refine WL.add rfl rfl (by omega) ?_
        refine WL.move rfl ?_
        refine WL.nil ?_
        refine Loop.again _ _ ?_ ?_ ⟨k + 1, vl, Mr10, rfl, rfl, (Up.trans hU11 (Up.trans u50 (Up.trans u58 u66))), e67, by rw [foldl_take_succ _ _ (show k < (rulesP rows).length by omega), rightStep, if_neg (by simp [*])]; exact hO69, hsp17, hsb15, by omega⟩
        · omega
        · exact .cons (t := 3) rfl (.cons (t := 7) rfl (.cons (t := 8) rfl (.cons (t := 9) rfl (.nil _))))
      · refine WL.gtake rfl rfl rfl ?_
        refine WL.move rfl ?_
        refine WL.gtake rfl rfl rfl ?_
        refine WL.fieldAddr fo100_0 rfl ?_
        refine WL.gtake rfl rfl rfl ?_
        refine WL.load sc29 rfl ((ha54.up (Up.trans u58 u66)).cell 0 _ rfl) ?_
        refine WL.gtake rfl rfl rfl ?_
        obtain ⟨A71, c72, rfl⟩ := Own.form hO69
        refine WL.call Try.func91 rfl rfl (.cons rfl (.cons rfl (.nil))) (find_spec _ _ (MB.none _) (Own.read00 hO69 hm68) (SlD.none (hD31.up (Up.trans u50 (Up.trans u58 u66))) hm68)) (fun _ w74 hr75 => ?_)
        obtain ⟨rfl, he76⟩ := hr75
        have u77 := Ext.up he76 hm68
        have e78 := Ext.trans e67 he76
        have hm79 := Up.mb u77
        have hO80 := Own.ext hO69 he76 u77 (fun _ h => h)
        refine WL.gtake rfl rfl rfl ?_
        refine WL.lss rfl rfl ?_
        refine WL.pickT rfl rfl ?_
        refine WL.nil ?_
        refine CW.condP rfl (fun hc81 => ?_) (fun hc81 => ?_)
        · refine CW.region ?_
          refine WL.move rfl ?_
          refine WL.loadAgg (cs := [.slice A26 ((rulesP (rows))[k].inn.length) c27, .slice A28 ((rulesP (rows))[k].out.length) c29]) ag100 rfl (ha54.up (Up.trans u58 (Up.trans u66 u77))) ?_
          refine WL.bslice1 (R := RuleR) (y' := (⟨(rulesP (rows))[k].inn, (rulesP (rows))[k].out⟩ : PRule)) Try.underlying49 ti100 rfl (by decide) (by decide) rfl ⟨_, _, rfl, SlD.sl (hD31.up (Up.trans u50 (Up.trans u58 (Up.trans u66 u77)))), SlD.sl (hD32.up (Up.trans u50 (Up.trans u58 (Up.trans u66 u77))))⟩ rfl hm79 (fun v82 w83 hS84 he85 => ?_)
          have u86 := Ext.up he85 hm79
          have e87 := Ext.trans e78 he85
          have hm88 := Up.mb u86
          have hO89 := Own.ext hO80 he85 u86 (fun _ h => h)
          refine WL.append Try.underlying49 ti100 rfl (by decide) rfl rfl hO89 hS84 (Stp.size e87) hm88 (by decide) (by simp; omega) (fun v90 w91 M92 hO93 hs94 u95 hsub96 hnew97 => ?_)
          have e98 := Ext.stp e87 hs94 (fun k hk => (Own.base hO89 k hk).1)
          have hm99 := Up.mb u95
          have mx100 := fun k h => hsub96 k (hsp17 k h)
          have hsb101 : ∀ k, M k → M92 k := fun k h => hsub96 k (hsb15 k h)
          refine WL.assign rfl ?_
          refine WL.nil ?_
          refine CW.region ?_
          refine WL.add rfl rfl (by omega) ?_
          refine WL.move rfl ?_
          refine WL.nil ?_
          refine Loop.again _ _ ?_ ?_ ⟨k + 1, v90, M92, rfl, rfl, (Up.trans hU11 (Up.trans u50 (Up.trans u58 (Up.trans u66 (Up.trans u77 (Up.trans u86 u95)))))), e98, by rw [foldl_take_succ _ _ (show k < (rulesP rows).length by omega), rightStep, if_pos (by simp [*])]; exact hO93, mx100, hsb101, by omega⟩
          · omega
          · exact .cons (t := 3) rfl (.cons (t := 7) rfl (.cons (t := 8) rfl (.cons (t := 9) rfl (.nil _))))
        · refine CW.skip ?_
          refine CW.region ?_
          refine WL.add rfl rfl (by omega) ?_
          refine WL.move rfl ?_
          refine WL.nil ?_
          refine Loop.again _ _ ?_ ?_ ⟨k + 1, .slice A71 ((((rulesP rows).take k).foldl rightStep []).length) c72, Mr10, rfl, rfl, (Up.trans hU11 (Up.trans u50 (Up.trans u58 (Up.trans u66 u77)))), e78, by rw [foldl_take_succ _ _ (show k < (rulesP rows).length by omega), rightStep, if_neg (by simp [*])]; exact hO80, hsp17, hsb15, by omega⟩
          · omega
          · exact .cons (t := 3) rfl (.cons (t := 7) rfl (.cons (t := 8) rfl (.cons (t := 9) rfl (.nil _))))
  · refine CW.exit ?_
    refine CW.seq ?_
    refine CW.region ?_
    refine WL.move rfl ?_
    refine WL.assign rfl ?_
    refine WL.nil ?_
    refine CW.ret ?_
    refine Ret.one rfl rfl ?_
    have hk2 : k = (rulesP rows).length := by omega
    subst hk2
    exact ⟨by have := Own.read0 hO14 hm13 hsb15 hm; rwa [List.take_length] at this, hE12⟩

theorem Closed_spec (w : World) (M : MS) (hm : MB w M) {Ap1 : Option Addr} {cp1 : Nat} {rs : List PRule} (h1 : SlD RuleR 2 w M Ap1 cp1 rs) (hne : ∀ x ∈ rs, 0 < x.inn.length) :
    Fc Try.prog 67 #[.slice Ap1 rs.length cp1] w fun v w' => v = .bool (closedP rs) ∧ Ext w w' := by
  have e0 := Stp.refl w (fun _ => False)
  have hlim := h1.lim
  refine Fc.enter (n := 66) [(0, .slice Ap1 rs.length cp1)] Try.func67 rfl rfl (Nat.le_of_ble_eq_true rfl) (.cons rfl (.nil _)) ?_
  refine CW.seq ?_
  refine CW.region ?_
  refine WL.assign rfl ?_
  refine WL.nil ?_
  refine CW.seq ?_
  refine CW.seq ?_
  refine CW.region ?_
  refine WL.move rfl ?_
  refine WL.len Try.underlying49 rfl ?_
  refine WL.move rfl ?_
  refine WL.nil ?_
  refine CW.block ?_
  refine CW.loop (fun m σ wr0 => ∃ k : Nat, m = rs.length - k ∧ σ = [(0, .slice Ap1 rs.length cp1), (10, .slice Ap1 rs.length cp1), (11, .int .i64 (rs.length : Int)), (12, .int .i64 (k : Int))] ∧ (Up w M wr0 M) ∧ (Ext w wr0) ∧ (Ext w wr0) ∧ (k ≤ rs.length) ∧ ((rs.take k).all (fun r => (List.range r.inn.length).all fun n => decide (n = 0) || begP rs r.inn n) = true)) _ _ (.cons (t := 0) rfl (.cons (t := 10) rfl (.cons (t := 11) rfl (.cons (t := 12) rfl (.nil _))))) ⟨0, rfl, rfl, Up.refl hm, e0, Stp.refl _ _, by omega, by simp⟩ ?_
  rintro m _ wr0 ⟨k, rfl, rfl, hU1, hE2, hX5, hk, hf⟩
  have hm3 := Up.mb hU1
  refine CW.seq ?_
  refine CW.region ?_
  refine WL.lss rfl rfl ?_
  refine WL.nil ?_
  refine CW.seq ?_
  refine CW.condP rfl (fun hc7 => ?_) (fun hc7 => ?_)
  · have hkl : k < rs.length := by omega
    have hk0 := hne rs[k] (List.getElem_mem hkl)
    refine CW.skip ?_
    refine CW.seq ?_
    refine CW.block ?_
    refine CW.seq ?_
    refine CW.region ?_
    have hlt8 : k < rs.length := by omega
    obtain ⟨ad9, cs10, hA11, hs12, hat13, hR14⟩ := SlD.get (h1.up hU1) (List.getElem?_eq_getElem hlt8)
    obtain ⟨_, _, hx19, ⟨A15, c16, rfl, hD20⟩, ⟨A17, c18, rfl, hD21⟩⟩ := hR14
    rw [hx19] at hat13
    have hl22 := SlD.lim hD20
    have hl23 := SlD.lim hD21
    refine WL.idx es49 rfl rfl hA11 (by omega) (by omega) ?_
    refine WL.loadAgg (cs := [.slice A15 (rs[k].inn.length) c16, .slice A17 (rs[k].out.length) c18]) ag100 rfl hat13 ?_
    refine WL.alloc (cs := [.slice none 0 0, .slice none 0 0]) ti100 rfl (fun g24 w25 hg26 hb27 he28 => ?_)
    have u29 := Ext.up he28 hm3
    have e30 := Ext.trans hE2 he28
    have hm31 := Up.mb u29
    have hb35 := hb27
    refine WL.storeAll (vs := [.slice A15 (rs[k].inn.length) c16, .slice A17 (rs[k].out.length) c18]) (by rw [ti100]; rfl) rfl rfl (by simp [Value.oneCell']) hb35 rfl (fun w32 hb33 hs34 => ?_)
    have he36 : Ext wr0 w32 := Stp.trans he28 hs34 (fun k hk => .inr (by rw [hk]; exact hg26))
    have hn37 := MB.fresh hm3 hg26
    have u38 := Ext.up he36 hm3
    have e39 := Ext.trans hE2 he36
    have hm40 := Up.mb u38
    have ha41 := Bk.at_ hb33 hn37
    refine WL.nil ?_
    refine CW.seq ?_
    refine CW.region ?_
    refine WL.assign rfl ?_
    refine WL.nil ?_
    refine CW.block ?_
    refine CW.loop (fun m σ wr1 => ∃ n : Nat, m = rs[k].inn.length - n ∧ σ = [(0, .slice Ap1 rs.length cp1), (4, .pointer (some ⟨g24, 0, none⟩)), (5, .int .i64 (n : Int)), (10, .slice Ap1 rs.length cp1), (11, .int .i64 (rs.length : Int)), (12, .int .i64 (k : Int))] ∧ (Up w32 M wr1 M) ∧ (Ext w wr1) ∧ (Ext w32 wr1) ∧ (1 ≤ n) ∧ (n ≤ rs[k].inn.length) ∧ (((List.range n).all fun n => decide (n = 0) || begP rs rs[k].inn n) = true)) _ _ (.cons (t := 0) rfl (.cons (t := 4) rfl (.cons (t := 5) rfl (.cons (t := 10) rfl (.cons (t := 11) rfl (.cons (t := 12) rfl (.nil _))))))) ⟨1, rfl, rfl, Up.refl hm40, e39, Stp.refl _ _, by omega, by omega, rfl⟩ ?_
    rintro m _ wr1 ⟨n, rfl, rfl, hU42, hE43, hX46, hn1, hn, hg⟩
    have hm44 := Up.mb hU42
    refine CW.seq ?_
    refine CW.seq ?_
    refine CW.region ?_
    refine WL.move rfl ?_
    refine WL.fieldAddr fo100_0 rfl ?_
    refine WL.load sc29 rfl ((ha41.up hU42).cell 0 _ rfl) ?_
    refine WL.len Try.underlying29 rfl ?_
    refine WL.lss rfl rfl ?_
    refine WL.nil ?_
    refine CW.condP rfl (fun hc48 => ?_) (fun hc48 => ?_)
    · refine CW.skip ?_
      refine CW.seq ?_
      refine CW.block ?_
      refine CW.seq ?_
      refine CW.region ?_
      refine WL.assign rfl ?_
      refine WL.assign rfl ?_
      refine WL.nil ?_
      refine CW.seq ?_
      refine CW.seq ?_
      refine CW.region ?_
      refine WL.move rfl ?_
      refine WL.len Try.underlying49 rfl ?_
      refine WL.move rfl ?_
      refine WL.nil ?_
      refine CW.block ?_
      refine CW.loop (fun m σ wr2 => ∃ j : Nat, ∃ is : Bool, ∃ en : Bool, m = rs.length - j ∧ σ = [(0, .slice Ap1 rs.length cp1), (4, .pointer (some ⟨g24, 0, none⟩)), (5, .int .i64 (n : Int)), (6, .bool is), (7, .bool en), (10, .slice Ap1 rs.length cp1), (11, .int .i64 (rs.length : Int)), (12, .int .i64 (k : Int)), (23, .slice Ap1 rs.length cp1), (24, .int .i64 (rs.length : Int)), (25, .int .i64 (j : Int))] ∧ (Up wr1 M wr2 M) ∧ (Ext w wr2) ∧ (Ext wr1 wr2) ∧ (j ≤ rs.length) ∧ (is = ((rs.take j).any fun x => decide (x.inn = rs[k].inn.take n))) ∧ (en = ((rs.take j).any fun x => decide (x.inn.getLast? = rs[k].inn.head?)))) _ _ (.cons (t := 0) rfl (.cons (t := 4) rfl (.cons (t := 5) rfl (.cons (t := 6) rfl (.cons (t := 7) rfl (.cons (t := 10) rfl (.cons (t := 11) rfl (.cons (t := 12) rfl (.cons (t := 23) rfl (.cons (t := 24) rfl (.cons (t := 25) rfl (.nil _)))))))))))) ⟨0, false, false, rfl, rfl, Up.refl hm44, hE43, Stp.refl _ _, by omega, by simp, by simp⟩ ?_
      rintro m _ wr2 ⟨j, is, en, rfl, rfl, hU49, hE50, hX53, hm_, his, hen⟩
      have hm51 := Up.mb hU49
      refine CW.seq ?_
      refine CW.region ?_
      refine WL.lss rfl rfl ?_
      refine WL.nil ?_
      refine CW.seq ?_
      refine CW.condP rfl (fun hc55 => ?_) (fun hc55 => ?_)
      · have hml : j < rs.length := by omega
        have hm0 := hne rs[j] (List.getElem_mem hml)
        have ha1 := any_next (p := fun x => decide (x.inn = rs[k].inn.take n)) hml
        have ha2 := any_next (p := fun x => decide (x.inn.getLast? = rs[k].inn.head?)) hml
        have hlh := last_head hm0 hk0 (i := rs[j].inn.length - 1) (by omega) rfl
        refine CW.skip ?_
        refine CW.seq ?_
        refine CW.block ?_
        refine CW.seq ?_
        refine CW.region ?_
        have hlt56 : j < rs.length := by omega
        obtain ⟨ad57, cs58, hA59, hs60, hat61, hR62⟩ := SlD.get (h1.up (Up.trans hU1 (Up.trans u38 (Up.trans hU42 hU49)))) (List.getElem?_eq_getElem hlt56)
        obtain ⟨_, _, hx67, ⟨A63, c64, rfl, hD68⟩, ⟨A65, c66, rfl, hD69⟩⟩ := hR62
        rw [hx67] at hat61
        have hl70 := SlD.lim hD68
        have hl71 := SlD.lim hD69
        refine WL.idx es49 rfl rfl hA59 (by omega) (by omega) ?_
        refine WL.loadAgg (cs := [.slice A63 (rs[j].inn.length) c64, .slice A65 (rs[j].out.length) c66]) ag100 rfl hat61 ?_
        refine WL.alloc (cs := [.slice none 0 0, .slice none 0 0]) ti100 rfl (fun g72 w73 hg74 hb75 he76 => ?_)
        have ne77 : g24 ≠ g72 := by have h1 := Bk.lt (Bk.ext (Bk.ext hb33 hX46) hX53); have h2 := hg74; omega
        have u78 := Ext.up he76 hm51
        have e79 := Ext.trans hE50 he76
        have hm80 := Up.mb u78
        have hb84 := hb75
        refine WL.storeAll (vs := [.slice A63 (rs[j].inn.length) c64, .slice A65 (rs[j].out.length) c66]) (by rw [ti100]; rfl) rfl rfl (by simp [Value.oneCell']) hb84 rfl (fun w81 hb82 hs83 => ?_)
        have he85 : Ext wr2 w81 := Stp.trans he76 hs83 (fun k hk => .inr (by rw [hk]; exact hg74))
        have hn86 := MB.fresh hm51 hg74
        have u87 := Ext.up he85 hm51
        have e88 := Ext.trans hE50 he85
        have hm89 := Up.mb u87
        have ha90 := Bk.at_ hb82 hn86
        refine WL.nil ?_
        refine CW.seq ?_
        refine CW.drawn [] (fun w1 w' => Ext w1 w') mixed (fun w91 ed92 hh93 => ?_)
        have u94 := Ext.up ed92 hm89
        have e95 := Ext.trans e88 ed92
        have hm96 := Up.mb u94
        have ex97 := Stp.refl w91 (fun _ => False)
        refine DW.t 0 rfl (by kernel_rfl) (fun _ _ _ h => h) (fun w' hC => Rn.move rfl) ?_
        refine DW.t 1 rfl (by kernel_rfl) (fun _ _ _ h => h) (fun w' hC => Rn.move rfl) ?_
        cases hg98 : is
        · refine DW.tg 2 rfl (by kernel_rfl) (fun _ _ _ h => h) rfl rfl rfl (fun w' hC => Rn.fieldAddr fo100_0 rfl) ?_
          refine DW.tg 3 rfl (by kernel_rfl) (fun _ _ _ h => h) rfl rfl rfl (fun w' hC => Rn.load sc29 rfl ((ha90.up (Up.trans u94 (Ext.up hC hm96))).cell 0 _ rfl)) ?_
          refine DW.tg 4 rfl (by kernel_rfl) (fun _ _ _ h => h) rfl rfl rfl (fun w' hC => Rn.fieldAddr fo100_0 rfl) ?_
          refine DW.tg 5 rfl (by kernel_rfl) (fun _ _ _ h => h) rfl rfl rfl (fun w' hC => Rn.load sc29 rfl ((ha41.up (Up.trans (Up.trans hU42 (Up.trans hU49 (Up.trans u87 u94))) (Ext.up hC hm96))).cell 0 _ rfl)) ?_
          refine DW.tg 6 rfl (by kernel_rfl) (fun _ _ _ h => h) rfl rfl rfl (fun w' hC => Rn.move rfl) ?_
          obtain ⟨A99, c100, hRn101, hD102, hl103⟩ := SlD.cutH (hD20.up (Up.trans u38 (Up.trans hU42 (Up.trans hU49 (Up.trans u87 u94))))) (i := (n : Int)) (by omega) (by omega)
          refine DW.tg 7 rfl (by kernel_rfl) (fun _ _ _ h => h) rfl rfl rfl (fun w' hC => Rn.rn (hRn101 es29 rfl rfl)) ?_
          refine DW.only 8 (by kernel_rfl) rfl (fun _ => ex97) ?_
          refine WL.gtake rfl rfl rfl ?_
          refine WL.call Try.func39 rfl rfl (.cons rfl (.cons rfl (.nil))) (Units_spec _ _ hm96 (hD68.up (Up.trans u87 u94)) hD102) (fun _ w104 hr105 => ?_)
          obtain ⟨rfl, he106⟩ := hr105
          have u107 := Ext.up he106 hm96
          have e108 := Ext.trans e95 he106
          have hm109 := Up.mb u107
          have ex110 := Ext.trans ex97 he106
          refine WL.nil ?_
          refine DW.t 9 rfl (by kernel_rfl) (fun _ _ _ h => h) (fun w' hC => Rn.pickF rfl rfl) ?_
          refine DW.t 10 rfl (by kernel_rfl) (fun _ _ _ h => h) (fun w' hC => Rn.assign rfl) ?_
          refine DW.done (by kernel_rfl) (fun _ => ex110) ?_
          refine CW.drawn [] (fun w1 w' => w' = w1) mixed (fun w111 ed112 hh113 => ?_)
          have u114 := Ext.up ed112 hm109
          have e115 := Ext.trans e108 ed112
          have hm116 := Up.mb u114
          refine DW.t 0 rfl (by kernel_rfl) (fun _ _ _ h => h) (by rintro _ rfl; exact Rn.move rfl) ?_
          refine DW.t 1 rfl (by kernel_rfl) (fun _ _ _ h => h) (by rintro _ rfl; exact Rn.move rfl) ?_
          cases hg117 : en
          · refine DW.tg 2 rfl (by kernel_rfl) (fun _ _ _ h => h) rfl rfl rfl (by rintro _ rfl; exact Rn.fieldAddr fo100_0 rfl) ?_
            refine DW.tg 3 rfl (by kernel_rfl) (fun _ _ _ h => h) rfl rfl rfl (by rintro _ rfl; exact Rn.load sc29 rfl ((ha90.up (Up.trans u94 (Up.trans u107 u114))).cell 0 _ rfl)) ?_
            refine DW.tg 4 rfl (by kernel_rfl) (fun _ _ _ h => h) rfl rfl rfl (by rintro _ rfl; exact Rn.fieldAddr fo100_0 rfl) ?_
            refine DW.tg 5 rfl (by kernel_rfl) (fun _ _ _ h => h) rfl rfl rfl (by rintro _ rfl; exact Rn.load sc29 rfl ((ha90.up (Up.trans u94 (Up.trans u107 u114))).cell 0 _ rfl)) ?_
            refine DW.tg 6 rfl (by kernel_rfl) (fun _ _ _ h => h) rfl rfl rfl (by rintro _ rfl; exact Rn.len Try.underlying29 rfl) ?_
            refine DW.tg 7 rfl (by kernel_rfl) (fun _ _ _ h => h) rfl rfl rfl (by rintro _ rfl; exact Rn.sub_ rfl rfl (by omega)) ?_
            have hlt118 : ((rs[j].inn.length : Int) - 1).toNat < (rs[j].inn).length := by omega
            obtain ⟨ad119, cs120, hA121, hs122, hat123, hR124⟩ := SlD.get (hD68.up (Up.trans u87 (Up.trans u94 (Up.trans u107 u114)))) (List.getElem?_eq_getElem hlt118)
            rw [show _ = _ from hR124.1] at hat123
            have hhR124 := hR124.2; simp only [I64] at hhR124
            refine DW.tg 8 rfl (by kernel_rfl) (fun _ _ _ h => h) rfl rfl rfl (by rintro _ rfl; exact Rn.idx es29 rfl rfl hA121 (by omega) (by omega)) ?_
            refine DW.tg 9 rfl (by kernel_rfl) (fun _ _ _ h => h) rfl rfl rfl (by rintro _ rfl; exact Rn.load sc3 rfl (hat123.cell 0 _ rfl)) ?_
            refine DW.tg 10 rfl (by kernel_rfl) (fun _ _ _ h => h) rfl rfl rfl (by rintro _ rfl; exact Rn.fieldAddr fo100_0 rfl) ?_
            refine DW.tg 11 rfl (by kernel_rfl) (fun _ _ _ h => h) rfl rfl rfl (by rintro _ rfl; exact Rn.load sc29 rfl ((ha41.up (Up.trans hU42 (Up.trans hU49 (Up.trans u87 (Up.trans u94 (Up.trans u107 u114)))))).cell 0 _ rfl)) ?_
            have hlt125 : 0 < (rs[k].inn).length := by omega
            obtain ⟨ad126, cs127, hA128, hs129, hat130, hR131⟩ := SlD.get (hD20.up (Up.trans u38 (Up.trans hU42 (Up.trans hU49 (Up.trans u87 (Up.trans u94 (Up.trans u107 u114))))))) (List.getElem?_eq_getElem hlt125)
            rw [show _ = _ from hR131.1] at hat130
            have hhR131 := hR131.2; simp only [I64] at hhR131
            refine DW.tg 12 rfl (by kernel_rfl) (fun _ _ _ h => h) rfl rfl rfl (by rintro _ rfl; exact Rn.idx es29 rfl rfl hA128 (by omega) (by omega)) ?_
            refine DW.tg 13 rfl (by kernel_rfl) (fun _ _ _ h => h) rfl rfl rfl (by rintro _ rfl; exact Rn.load sc3 rfl (hat130.cell 0 _ rfl)) ?_
            refine DW.tg 14 rfl (by kernel_rfl) (fun _ _ _ h => h) rfl rfl rfl (by rintro _ rfl; exact Rn.eql rfl rfl) ?_
            refine DW.t 15 rfl (by kernel_rfl) (fun _ _ _ h => h) (by rintro _ rfl; exact Rn.pickF rfl rfl) ?_
            refine DW.t 16 rfl (by kernel_rfl) (fun _ _ _ h => h) (by rintro _ rfl; exact Rn.assign rfl) ?_
            refine DW.done (by kernel_rfl) (fun _ => rfl) ?_
            refine CW.region ?_
            refine WL.add rfl rfl (by omega) ?_
            refine WL.move rfl ?_
            refine WL.nil ?_
            refine Loop.again _ _ ?_ ?_ ⟨j + 1, (decide (rs[j].inn = ((rs[k].inn).take n))), (decide ((rs[j].inn)[((rs[j].inn.length : Int) - 1).toNat] = (rs[k].inn)[0])), rfl, rfl, (Up.trans hU49 (Up.trans u87 (Up.trans u94 (Up.trans u107 u114)))), e115, (Ext.trans (Ext.trans (Ext.trans (Ext.trans hX53 he85) ed92) he106) ed112), by omega, by rw [ha1, ← his, hg98]; simp, by rw [ha2, ← hen, hg117]; simp [hlh]⟩
            · omega
            · exact .cons (t := 0) rfl (.cons (t := 4) rfl (.cons (t := 5) rfl (.cons (t := 6) rfl (.cons (t := 7) rfl (.cons (t := 10) rfl (.cons (t := 11) rfl (.cons (t := 12) rfl (.cons (t := 23) rfl (.cons (t := 24) rfl (.cons (t := 25) rfl (.nil _)))))))))))
          · refine DW.sg 2 rfl (by kernel_rfl) (fun _ _ _ h => h) rfl rfl rfl ?_
            refine DW.sg 3 rfl (by kernel_rfl) (fun _ _ _ h => h) rfl rfl rfl ?_
            refine DW.sg 4 rfl (by kernel_rfl) (fun _ _ _ h => h) rfl rfl rfl ?_
            refine DW.sg 5 rfl (by kernel_rfl) (fun _ _ _ h => h) rfl rfl rfl ?_
            refine DW.sg 6 rfl (by kernel_rfl) (fun _ _ _ h => h) rfl rfl rfl ?_
            refine DW.sg 7 rfl (by kernel_rfl) (fun _ _ _ h => h) rfl rfl rfl ?_
            refine DW.sg 8 rfl (by kernel_rfl) (fun _ _ _ h => h) rfl rfl rfl ?_
            refine DW.sg 9 rfl (by kernel_rfl) (fun _ _ _ h => h) rfl rfl rfl ?_
            refine DW.sg 10 rfl (by kernel_rfl) (fun _ _ _ h => h) rfl rfl rfl ?_
            refine DW.sg 11 rfl (by kernel_rfl) (fun _ _ _ h => h) rfl rfl rfl ?_
            refine DW.sg 12 rfl (by kernel_rfl) (fun _ _ _ h => h) rfl rfl rfl ?_
            refine DW.sg 13 rfl (by kernel_rfl) (fun _ _ _ h => h) rfl rfl rfl ?_
            refine DW.sg 14 rfl (by kernel_rfl) (fun _ _ _ h => h) rfl rfl rfl ?_
            refine DW.t 15 rfl (by kernel_rfl) (fun _ _ _ h => h) (by rintro _ rfl; exact Rn.pickT rfl rfl) ?_
            refine DW.t 16 rfl (by kernel_rfl) (fun _ _ _ h => h) (by rintro _ rfl; exact Rn.assign rfl) ?_
            refine DW.done (by kernel_rfl) (fun _ => rfl) ?_
            refine CW.region ?_
            refine WL.add rfl rfl (by omega) ?_
            refine WL.move rfl ?_
            refine WL.nil ?_
            refine Loop.again _ _ ?_ ?_ ⟨j + 1, (decide (rs[j].inn = ((rs[k].inn).take n))), true, rfl, rfl, (Up.trans hU49 (Up.trans u87 (Up.trans u94 (Up.trans u107 u114)))), e115, (Ext.trans (Ext.trans (Ext.trans (Ext.trans hX53 he85) ed92) he106) ed112), by omega, by rw [ha1, ← his, hg98]; simp, by rw [ha2, ← hen, hg117]; simp [hlh]⟩
            · omega
            · exact .cons (t := 0) rfl (.cons (t := 4) rfl (.cons (t := 5) rfl (.cons (t := 6) rfl (.cons (t := 7) rfl (.cons (t := 10) rfl (.cons (t := 11) rfl (.cons (t := 12) rfl (.cons (t := 23) rfl (.cons (t := 24) rfl (.cons (t := 25) rfl (.nil _)))))))))))
        · refine DW.sg 2 rfl (by kernel_rfl) (fun _ _ _ h => h) rfl rfl rfl ?_
          refine DW.sg 3 rfl (by kernel_rfl) (fun _ _ _ h => h) rfl rfl rfl ?_
          refine DW.sg 4 rfl (by kernel_rfl) (fun _ _ _ h => h) rfl rfl rfl ?_
          refine DW.sg 5 rfl (by kernel_rfl) (fun _ _ _ h => h) rfl rfl rfl ?_
          refine DW.sg 6 rfl (by kernel_rfl) (fun _ _ _ h => h) rfl rfl rfl ?_
          refine DW.sg 7 rfl (by kernel_rfl) (fun _ _ _ h => h) rfl rfl rfl ?_
          refine DW.sg 8 rfl (by kernel_rfl) (fun _ _ _ h => h) rfl rfl rfl ?_
          refine DW.t 9 rfl (by kernel_rfl) (fun _ _ _ h => h) (fun w' hC => Rn.pickT rfl rfl) ?_
          refine DW.t 10 rfl (by kernel_rfl) (fun _ _ _ h => h) (fun w' hC => Rn.assign rfl) ?_
          refine DW.done (by kernel_rfl) (fun _ => ex97) ?_
          refine CW.drawn [] (fun w1 w' => w' = w1) mixed (fun w132 ed133 hh134 => ?_)
          have u135 := Ext.up ed133 hm96
          have e136 := Ext.trans e95 ed133
          have hm137 := Up.mb u135
          refine DW.t 0 rfl (by kernel_rfl) (fun _ _ _ h => h) (by rintro _ rfl; exact Rn.move rfl) ?_
          refine DW.t 1 rfl (by kernel_rfl) (fun _ _ _ h => h) (by rintro _ rfl; exact Rn.move rfl) ?_
          cases hg138 : en
          · refine DW.tg 2 rfl (by kernel_rfl) (fun _ _ _ h => h) rfl rfl rfl (by rintro _ rfl; exact Rn.fieldAddr fo100_0 rfl) ?_
            refine DW.tg 3 rfl (by kernel_rfl) (fun _ _ _ h => h) rfl rfl rfl (by rintro _ rfl; exact Rn.load sc29 rfl ((ha90.up (Up.trans u94 u135)).cell 0 _ rfl)) ?_
            refine DW.tg 4 rfl (by kernel_rfl) (fun _ _ _ h => h) rfl rfl rfl (by rintro _ rfl; exact Rn.fieldAddr fo100_0 rfl) ?_
            refine DW.tg 5 rfl (by kernel_rfl) (fun _ _ _ h => h) rfl rfl rfl (by rintro _ rfl; exact Rn.load sc29 rfl ((ha90.up (Up.trans u94 u135)).cell 0 _ rfl)) ?_
            refine DW.tg 6 rfl (by kernel_rfl) (fun _ _ _ h => h) rfl rfl rfl (by rintro _ rfl; exact Rn.len Try.underlying29 rfl) ?_
            refine DW.tg 7 rfl (by kernel_rfl) (fun _ _ _ h => h) rfl rfl rfl (by rintro _ rfl; exact Rn.sub_ rfl rfl (by omega)) ?_
            have hlt139 : ((rs[j].inn.length : Int) - 1).toNat < (rs[j].inn).length := by omega
            obtain ⟨ad140, cs141, hA142, hs143, hat144, hR145⟩ := SlD.get (hD68.up (Up.trans u87 (Up.trans u94 u135))) (List.getElem?_eq_getElem hlt139)
            rw [show _ = _ from hR145.1] at hat144
            have hhR145 := hR145.2; simp only [I64] at hhR145
            refine DW.tg 8 rfl (by kernel_rfl) (fun _ _ _ h => h) rfl rfl rfl (by rintro _ rfl; exact Rn.idx es29 rfl rfl hA142 (by omega) (by omega)) ?_
            refine DW.tg 9 rfl (by kernel_rfl) (fun _ _ _ h => h) rfl rfl rfl (by rintro _ rfl; exact Rn.load sc3 rfl (hat144.cell 0 _ rfl)) ?_
            refine DW.tg 10 rfl (by kernel_rfl) (fun _ _ _ h => h) rfl rfl rfl (by rintro _ rfl; exact Rn.fieldAddr fo100_0 rfl) ?_
            refine DW.tg 11 rfl (by kernel_rfl) (fun _ _ _ h => h) rfl rfl rfl (by rintro _ rfl; exact Rn.load sc29 rfl ((ha41.up (Up.trans hU42 (Up.trans hU49 (Up.trans u87 (Up.trans u94 u135))))).cell 0 _ rfl)) ?_
            have hlt146 : 0 < (rs[k].inn).length := by omega
            obtain ⟨ad147, cs148, hA149, hs150, hat151, hR152⟩ := SlD.get (hD20.up (Up.trans u38 (Up.trans hU42 (Up.trans hU49 (Up.trans u87 (Up.trans u94 u135)))))) (List.getElem?_eq_getElem hlt146)
            rw [show _ = _ from hR152.1] at hat151
            have hhR152 := hR152.2; simp only [I64] at hhR152
            refine DW.tg 12 rfl (by kernel_rfl) (fun _ _ _ h => h) rfl rfl rfl (by rintro _ rfl; exact Rn.idx es29 rfl rfl hA149 (by omega) (by omega)) ?_
            refine DW.tg 13 rfl (by kernel_rfl) (fun _ _ _ h => h) rfl rfl rfl (by rintro _ rfl; exact Rn.load sc3 rfl (hat151.cell 0 _ rfl)) ?_
            refine DW.tg 14 rfl (by kernel_rfl) (fun _ _ _ h => h) rfl rfl rfl (by rintro _ rfl; exact Rn.eql rfl rfl) ?_
            refine DW.t 15 rfl (by kernel_rfl) (fun _ _ _ h => h) (by rintro _ rfl; exact Rn.pickF rfl rfl) ?_
            refine DW.t 16 rfl (by kernel_rfl) (fun _ _ _ h => h) (by rintro _ rfl; exact Rn.assign rfl) ?_
            refine DW.done (by kernel_rfl) (fun _ => rfl) ?_
            refine CW.region ?_
            refine WL.add rfl rfl (by omega) ?_
            refine WL.move rfl ?_
            refine WL.nil ?_
            refine Loop.again _ _ ?_ ?_ ⟨j + 1, true, (decide ((rs[j].inn)[((rs[j].inn.length : Int) - 1).toNat] = (rs[k].inn)[0])), rfl, rfl, (Up.trans hU49 (Up.trans u87 (Up.trans u94 u135))), e136, (Ext.trans (Ext.trans (Ext.trans hX53 he85) ed92) ed133), by omega, by rw [ha1, ← his, hg98]; simp, by rw [ha2, ← hen, hg138]; simp [hlh]⟩
            · omega
            · exact .cons (t := 0) rfl (.cons (t := 4) rfl (.cons (t := 5) rfl (.cons (t := 6) rfl (.cons (t := 7) rfl (.cons (t := 10) rfl (.cons (t := 11) rfl (.cons (t := 12) rfl (.cons (t := 23) rfl (.cons (t := 24) rfl (.cons (t := 25) rfl (.nil _)))))))))))
          · refine DW.sg 2 rfl (by kernel_rfl) (fun _ _ _ h => h) rfl rfl rfl ?_
            refine DW.sg 3 rfl (by kernel_rfl) (fun _ _ _ h => h) rfl rfl rfl ?_
            refine DW.sg 4 rfl (by kernel_rfl) (fun _ _ _ h => h) rfl rfl rfl ?_
            refine DW.sg 5 rfl (by kernel_rfl) (fun _ _ _ h => h) rfl rfl rfl ?_
            refine DW.sg 6 rfl (by kernel_rfl) (fun _ _ _ h => h) rfl rfl rfl ?_
            refine DW.sg 7 rfl (by kernel_rfl) (fun _ _ _ h => h) rfl rfl rfl ?_
            refine DW.sg 8 rfl (by kernel_rfl) (fun _ _ _ h => h) rfl rfl rfl ?_
            refine DW.sg 9 rfl (by kernel_rfl) (fun _ _ _ h => h) rfl rfl rfl ?_
            refine DW.sg 10 rfl (by kernel_rfl) (fun _ _ _ h => h) rfl rfl rfl ?_
            refine DW.sg 11 rfl (by kernel_rfl) (fun _ _ _ h => h) rfl rfl rfl ?_
            refine DW.sg 12 rfl (by kernel_rfl) (fun _ _ _ h => h) rfl rfl rfl ?_
            refine DW.sg 13 rfl (by kernel_rfl) (fun _ _ _ h => h) rfl rfl rfl ?_
            refine DW.sg 14 rfl (by kernel_rfl) (fun _ _ _ h => h) rfl rfl rfl ?_
            refine DW.t 15 rfl (by kernel_rfl) (fun _ _ _ h => h) (by rintro _ rfl; exact Rn.pickT rfl rfl) ?_
            refine DW.t 16 rfl (by kernel_rfl) (fun _ _ _ h => h) (by rintro _ rfl; exact Rn.assign rfl) ?_
            refine DW.done (by kernel_rfl) (fun _ => rfl) ?_
            refine CW.region ?_
            refine WL.add rfl rfl (by omega) ?_
            refine WL.move rfl ?_
            refine WL.nil ?_
            refine Loop.again _ _ ?_ ?_ ⟨j + 1, true, true, rfl, rfl, (Up.trans hU49 (Up.trans u87 (Up.trans u94 u135))), e136, (Ext.trans (Ext.trans (Ext.trans hX53 he85) ed92) ed133), by omega, by rw [ha1, ← his, hg98]; simp, by rw [ha2, ← hen, hg138]; simp [hlh]⟩
            · omega
            · exact .cons (t := 0) rfl (.cons (t := 4) rfl (.cons (t := 5) rfl (.cons (t := 6) rfl (.cons (t := 7) rfl (.cons (t := 10) rfl (.cons (t := 11) rfl (.cons (t := 12) rfl (.cons (t := 23) rfl (.cons (t := 24) rfl (.cons (t := 25) rfl (.nil _)))))))))))
      · have hml : rs.length ≤ j := by omega
        refine CW.exit ?_
        refine CW.seq ?_
        refine CW.region ?_
        refine WL.move rfl ?_
        refine WL.not_ rfl ?_
        refine WL.move rfl ?_
        cases hg153 : !is
        · refine WL.gskip rfl rfl rfl ?_
          refine WL.gskip rfl rfl rfl ?_
          refine WL.gskip rfl rfl rfl ?_
          refine WL.uskip rfl rfl ?_
          refine WL.gskip rfl rfl rfl ?_
          refine WL.pickF rfl rfl ?_
          refine WL.nil ?_
          refine CW.condF rfl ?_
          refine CW.skip ?_
          refine CW.region ?_
          refine WL.move rfl ?_
          refine WL.add rfl rfl (by omega) ?_
          refine WL.assign rfl ?_
          refine WL.nil ?_
          refine Loop.again _ _ ?_ ?_ ⟨n + 1, rfl, rfl, (Up.trans hU42 hU49), hE50, (Ext.trans hX46 hX53), by omega, by omega, by rw [List.range_succ, List.all_append, hg]; simp only [List.all_cons, List.all_nil, Bool.and_true, Bool.true_and]; exact closed_ok (by omega) hml (.inl (by rw [← his]; simpa using hg153))⟩
          · omega
          · exact .cons (t := 0) rfl (.cons (t := 4) rfl (.cons (t := 5) rfl (.cons (t := 10) rfl (.cons (t := 11) rfl (.cons (t := 12) rfl (.nil _))))))
        · refine WL.gtake rfl rfl rfl ?_
          refine WL.move rfl ?_
          refine WL.gtake rfl rfl rfl ?_
          refine WL.gtr rfl rfl ?_
          refine WL.gtake rfl rfl rfl ?_
          refine WL.move rfl ?_
          by_cases hg154 : 1 < (n : Int)
          · refine WL.gskip rfl rfl (decide_eq_true hg154) ?_
            refine WL.gtake rfl rfl rfl ?_
            refine WL.pickT (congrArg (fun b => some (Value.bool b)) (decide_eq_true hg154)) rfl ?_
            refine WL.pickT rfl rfl ?_
            refine WL.nil ?_
            refine CW.condT rfl ?_
            refine CW.seq ?_
            refine CW.region ?_
            refine WL.assign rfl ?_
            refine WL.nil ?_
            refine CW.ret ?_
            refine Ret.one rfl rfl ?_
            refine ⟨?_, hE50⟩
            exact congrArg Value.bool (closed_bad (k := k) (n := n) (by omega) (by omega) (by omega) hml ⟨by rw [← his]; simpa using hg153, .inl (by omega)⟩).symm
          · refine WL.gtake rfl rfl (decide_eq_false hg154) ?_
            refine WL.move rfl ?_
            refine WL.gtake rfl rfl rfl ?_
            refine WL.pickF (congrArg (fun b => some (Value.bool b)) (decide_eq_false hg154)) rfl ?_
            refine WL.pickT rfl rfl ?_
            refine WL.nil ?_
            refine CW.condB rfl (fun hc155 => ?_) (fun hc155 => ?_)
            · refine CW.seq ?_
              refine CW.region ?_
              refine WL.assign rfl ?_
              refine WL.nil ?_
              refine CW.ret ?_
              refine Ret.one rfl rfl ?_
              refine ⟨?_, hE50⟩
              exact congrArg Value.bool (closed_bad (k := k) (n := n) (by omega) (by omega) (by omega) hml ⟨by rw [← his]; simpa using hg153, .inr (by rw [← hen]; simpa using hc155)⟩).symm
            · refine CW.skip ?_
              refine CW.region ?_
              refine WL.move rfl ?_
              refine WL.add rfl rfl (by omega) ?_
              refine WL.assign rfl ?_
              refine WL.nil ?_
              refine Loop.again _ _ ?_ ?_ ⟨n + 1, rfl, rfl, (Up.trans hU42 hU49), hE50, (Ext.trans hX46 hX53), by omega, by omega, by rw [List.range_succ, List.all_append, hg]; simp only [List.all_cons, List.all_nil, Bool.and_true, Bool.true_and]; exact closed_ok (by omega) hml (.inr ⟨by omega, by rw [← hen]; simpa using hc155⟩)⟩
              · omega
              · exact .cons (t := 0) rfl (.cons (t := 4) rfl (.cons (t := 5) rfl (.cons (t := 10) rfl (.cons (t := 11) rfl (.cons (t := 12) rfl (.nil _))))))
    · refine CW.exit ?_
      refine CW.region ?_
      refine WL.add rfl rfl (by omega) ?_
      refine WL.move rfl ?_
      refine WL.nil ?_
      have hnl : n = rs[k].inn.length := by omega
      subst hnl
      refine Loop.again _ _ ?_ ?_ ⟨k + 1, rfl, rfl, (Up.trans hU1 (Up.trans u38 hU42)), hE43, (Ext.trans (Ext.trans hX5 he36) hX46), by omega, all_next (by omega) hf hg⟩
      · omega
      · exact .cons (t := 0) rfl (.cons (t := 10) rfl (.cons (t := 11) rfl (.cons (t := 12) rfl (.nil _))))
  · refine CW.exit ?_
    refine CW.seq ?_
    refine CW.region ?_
    refine WL.assign rfl ?_
    refine WL.nil ?_
    refine CW.ret ?_
    refine Ret.one rfl rfl ?_
    refine ⟨?_, hE2⟩
    exact congrArg Value.bool (all_end (by omega) hf).symm

theorem Table_spec (w : World) (M : MS) (hm : MB w M) {Ap1 : Option Addr} {cp1 : Nat} {rows : List PRow} (h1 : SlD RowR 5 w M Ap1 cp1 rows) :
    Fc Try.prog 26 #[.slice Ap1 rows.length cp1] w fun v w' => Sl RuleR 2 w' M v (tableP (rightP (rulesP rows))) ∧ Ext w w' := by
  have e0 := Stp.refl w (fun _ => False)
  have hlim := h1.lim
  have hl40 := right40 rows
  refine Fc.enter (n := 25) [(0, .slice Ap1 rows.length cp1)] Try.func26 rfl rfl (Nat.le_of_ble_eq_true rfl) (.cons rfl (.nil _)) ?_
  refine CW.seq ?_
  refine CW.region ?_
  refine WL.assign rfl ?_
  refine WL.nil ?_
  refine CW.seq ?_
  refine CW.region ?_
  refine WL.assign rfl ?_
  refine WL.nil ?_
  refine CW.seq ?_
  refine CW.seq ?_
  refine CW.region ?_
  refine WL.move rfl ?_
  refine WL.call Try.func66 rfl rfl (.cons rfl (.nil)) (Right_spec _ _ hm h1) (fun _ w4 hr5 => ?_)
  obtain ⟨⟨A1, c2, rfl, hD3⟩, he6⟩ := hr5
  have u7 := Ext.up he6 hm
  have e8 := Ext.trans e0 he6
  have hm9 := Up.mb u7
  refine WL.len Try.underlying49 rfl ?_
  refine WL.move rfl ?_
  refine WL.nil ?_
  refine CW.block ?_
  refine CW.loop (fun m σ wr0 => ∃ k : Nat, ∃ vl : Value, ∃ Mr10 : MS, m = (rightP (rulesP rows)).length - k ∧ σ = [(3, vl), (7, .slice A1 ((rightP (rulesP rows)).length) c2), (8, .int .i64 ((rightP (rulesP rows)).length : Int)), (9, .int .i64 (k : Int))] ∧ (Up w4 M wr0 Mr10) ∧ (Ext w wr0) ∧ (Own RuleR 2 100 wr0 Mr10 w.heap.size vl (((rightP (rulesP rows)).take k).foldl tableStep [])) ∧ (∀ k, M k → Mr10 k) ∧ (∀ k, M k → Mr10 k) ∧ (k ≤ (rightP (rulesP rows)).length)) _ _ (.cons (t := 3) rfl (.cons (t := 7) rfl (.cons (t := 8) rfl (.cons (t := 9) rfl (.nil _))))) ⟨0, (.slice none 0 0), M, rfl, rfl, Up.refl hm9, e8, by simpa using Own.nil, fun _ h => h, (fun _ h => h), by omega⟩ ?_
  rintro m _ wr0 ⟨k, vl, Mr10, rfl, rfl, hU11, hE12, hO14, hsp17, hsb15, hk⟩
  have hm13 := Up.mb hU11
  have hl2 := tableFold_len ((rightP (rulesP rows)).take k) []
  have hl3 : ((rightP (rulesP rows)).take k).length ≤ 40 := by simp; omega
  simp only [List.length_nil, Nat.zero_add] at hl2
  refine CW.seq ?_
  refine CW.region ?_
  refine WL.lss rfl rfl ?_
  refine WL.nil ?_
  refine CW.seq ?_
  refine CW.condP rfl (fun hc18 => ?_) (fun hc18 => ?_)
  · have hkl : k < (rightP (rulesP rows)).length := by omega
    have hne := table_ne hkl
    refine CW.skip ?_
    refine CW.seq ?_
    refine CW.block ?_
    refine CW.seq ?_
    refine CW.region ?_
    have hlt19 : k < (rightP (rulesP rows)).length := by omega
    obtain ⟨ad20, cs21, hA22, hs23, hat24, hR25⟩ := SlD.get (hD3.up hU11) (List.getElem?_eq_getElem hlt19)
    obtain ⟨_, _, hx30, ⟨A26, c27, rfl, hD31⟩, ⟨A28, c29, rfl, hD32⟩⟩ := hR25
    rw [hx30] at hat24
    have hl33 := SlD.lim hD31
    have hl34 := SlD.lim hD32
    refine WL.idx es49 rfl rfl hA22 (by omega) (by omega) ?_
    refine WL.loadAgg (cs := [.slice A26 ((rightP (rulesP rows))[k].inn.length) c27, .slice A28 ((rightP (rulesP rows))[k].out.length) c29]) ag100 rfl hat24 ?_
    refine WL.alloc (cs := [.slice none 0 0, .slice none 0 0]) ti100 rfl (fun g35 w36 hg37 hb38 he39 => ?_)
    have u40 := Ext.up he39 hm13
    have e41 := Ext.trans hE12 he39
    have hm42 := Up.mb u40
    have hO43 := Own.ext hO14 he39 u40 (fun _ h => h)
    have hb47 := hb38
    refine WL.storeAll (vs := [.slice A26 ((rightP (rulesP rows))[k].inn.length) c27, .slice A28 ((rightP (rulesP rows))[k].out.length) c29]) (by rw [ti100]; rfl) rfl rfl (by simp [Value.oneCell']) hb47 rfl (fun w44 hb45 hs46 => ?_)
    have he48 : Ext wr0 w44 := Stp.trans he39 hs46 (fun k hk => .inr (by rw [hk]; exact hg37))
    have hn49 := MB.fresh hm13 hg37
    have u50 := Ext.up he48 hm13
    have e51 := Ext.trans hE12 he48
    have hm52 := Up.mb u50
    have hO53 := Own.ext hO14 he48 u50 (fun _ h => h)
    have ha54 := Bk.at_ hb45 hn49
    refine WL.nil ?_
    refine CW.seq ?_
    refine CW.drawn [] (fun w1 w' => Ext w1 w') mixed (fun w55 ed56 hh57 => ?_)
    have u58 := Ext.up ed56 hm52
    have e59 := Ext.trans e51 ed56
    have hm60 := Up.mb u58
    have hO61 := Own.ext hO53 ed56 u58 (fun _ h => h)
    have ex62 := Stp.refl w55 (fun _ => False)
    refine DW.t 0 rfl (by kernel_rfl) (fun _ _ _ h => h) (fun w' hC => Rn.move rfl) ?_
    refine DW.t 2 rfl (by kernel_rfl) (fun _ _ _ h => h) (fun w' hC => Rn.loadAgg (cs := [.slice A26 ((rightP (rulesP rows))[k].inn.length) c27, .slice A28 ((rightP (rulesP rows))[k].out.length) c29]) ag100 rfl (ha54.up (Up.trans u58 (Ext.up hC hm60)))) ?_
    refine DW.two 1 3 (by kernel_rfl) rfl rfl (fun _ => ex62) ?_ ?_
    · have lt63 : ∀ k, Value.ownBlock vl = some k → k < w55.heap.size := fun k hk => (Own.base hO61 k hk).2
      refine WL.appendX Try.underlying49 ti100 rfl (by decide) rfl rfl (Own.nil (R := RuleR) (sz := 2) (e := 100) (w := w55) (M := Mr10) (B := w55.heap.size)) (Own.atl hO61) (Nat.le_refl _) hm60 (by decide) (by simp; omega) (fun v64 w65 M66 hO67 hs68 u69 hsub70 hnew71 => ?_)
      have e72 := Ext.stp e59 hs68 (fun k hk => by simp [Value.ownBlock] at hk)
      have hm73 := Up.mb u69
      have hO74 := Own.step hO61 hs68 (fun k _ h => by simp [Value.ownBlock] at h) u69 (fun k hk => hsub70 k (Own.mem hO61 k hk))
      have ex75 := Ext.stp ex62 hs68 (fun k hk => by simp [Value.ownBlock] at hk)
      have mx76 := fun k h => hsub70 k (hsp17 k h)
      have hsb77 : ∀ k, M k → M66 k := fun k h => hsub70 k (hsb15 k h)
      refine WL.nil ?_
      refine DW.only 3 (by kernel_rfl) rfl (fun _ => ex75) ?_
      refine WL.bslice1 (R := RuleR) (y' := (⟨(rightP (rulesP rows))[k].inn, (rightP (rulesP rows))[k].out⟩ : PRule)) Try.underlying49 ti100 rfl (by decide) (by decide) rfl ⟨_, _, rfl, SlD.sl (hD31.up (Up.trans u50 (Up.trans u58 u69))), SlD.sl (hD32.up (Up.trans u50 (Up.trans u58 u69)))⟩ rfl hm73 (fun v78 w79 hS80 he81 => ?_)
      have u82 := Ext.up he81 hm73
      have e83 := Ext.trans e72 he81
      have hm84 := Up.mb u82
      have hO85 := Own.ext hO74 he81 u82 (fun _ h => h)
      have hO86 := Own.ext hO67 he81 u82 (fun _ h => h)
      have ex87 := Ext.trans ex75 he81
      refine WL.nil ?_
      refine DW.only 4 (by kernel_rfl) rfl (fun _ => ex87) ?_
      refine WL.append Try.underlying49 ti100 rfl (by decide) rfl rfl hO86 hS80 (Stp.size (Up.stp (Up.trans u69 u82))) hm84 (by decide) (by simp; omega) (fun v88 w89 M90 hO91 hs92 u93 hsub94 hnew95 => ?_)
      have e96 := Ext.stp e83 hs92 (fun k hk => Nat.le_trans (Stp.size e59) (Own.base hO86 k hk).1)
      have hm97 := Up.mb u93
      have hO98 := Own.step hO85 hs92 (fun k h1 h2 => by have a1 := lt63 k h1; have a2 := (Own.base hO86 k h2).1; omega) u93 (fun k hk => hsub94 k (Own.mem hO85 k hk))
      have ex99 := Ext.stp ex87 hs92 (fun k hk => Nat.le_trans (Stp.size ex62) (Own.base hO86 k hk).1)
      have mx100 := fun k h => hsub94 k (mx76 k h)
      have hsb101 : ∀ k, M k → M90 k := fun k h => hsub94 k (hsb77 k h)
      refine WL.nil ?_
      refine DW.only 5 (by kernel_rfl) rfl (fun _ => ex99) ?_
      obtain ⟨A102, c103, rfl⟩ := Own.form hO91
      refine WL.call Try.func67 rfl rfl (.cons rfl (.nil)) (Closed_spec _ _ (MB.none _) (Own.read00 hO91 hm97) (fun x hx => hne x (by simpa using hx))) (fun _ w105 hr106 => ?_)
      obtain ⟨rfl, he107⟩ := hr106
      have u108 := Ext.up he107 hm97
      have e109 := Ext.trans e96 he107
      have hm110 := Up.mb u108
      have hO111 := Own.ext hO98 he107 u108 (fun _ h => h)
      have hO112 := Own.ext hO91 he107 u108 (fun _ h => h)
      have ex113 := Ext.trans ex99 he107
      refine WL.nil ?_
      refine DW.done (by kernel_rfl) (fun _ => ex113) ?_
      refine CW.condB rfl (fun hc114 => ?_) (fun hc114 => ?_)
      · refine CW.region ?_
        refine WL.move rfl ?_
        refine WL.loadAgg (cs := [.slice A26 ((rightP (rulesP rows))[k].inn.length) c27, .slice A28 ((rightP (rulesP rows))[k].out.length) c29]) ag100 rfl (ha54.up (Up.trans u58 (Up.trans u69 (Up.trans u82 (Up.trans u93 u108))))) ?_
        refine WL.bslice1 (R := RuleR) (y' := (⟨(rightP (rulesP rows))[k].inn, (rightP (rulesP rows))[k].out⟩ : PRule)) Try.underlying49 ti100 rfl (by decide) (by decide) rfl ⟨_, _, rfl, SlD.sl (hD31.up (Up.trans u50 (Up.trans u58 (Up.trans u69 (Up.trans u82 (Up.trans u93 u108)))))), SlD.sl (hD32.up (Up.trans u50 (Up.trans u58 (Up.trans u69 (Up.trans u82 (Up.trans u93 u108))))))⟩ rfl hm110 (fun v115 w116 hS117 he118 => ?_)
        have u119 := Ext.up he118 hm110
        have e120 := Ext.trans e109 he118
        have hm121 := Up.mb u119
        have hO122 := Own.ext hO111 he118 u119 (fun _ h => h)
        have hO123 := Own.ext hO112 he118 u119 (fun _ h => h)
        refine WL.append Try.underlying49 ti100 rfl (by decide) rfl rfl hO122 hS117 (Stp.size e120) hm121 (by decide) (by simp; omega) (fun v124 w125 M126 hO127 hs128 u129 hsub130 hnew131 => ?_)
        have e132 := Ext.stp e120 hs128 (fun k hk => (Own.base hO122 k hk).1)
        have hm133 := Up.mb u129
        have hO134 := Own.step hO123 hs128 (fun k h1 h2 => by have a1 := lt63 k h2; have a2 := (Own.base hO123 k h1).1; omega) u129 (fun k hk => hsub130 k (Own.mem hO123 k hk))
        have mx135 := fun k h => hsub130 k (mx100 k h)
        have hsb136 : ∀ k, M k → M126 k := fun k h => hsub130 k (hsb101 k h)
        refine WL.assign rfl ?_
        refine WL.nil ?_
        refine CW.region ?_
        refine WL.add rfl rfl (by omega) ?_
        refine WL.move rfl ?_
        refine WL.nil ?_
        refine Loop.again _ _ ?_ ?_ ⟨k + 1, v124, M126, rfl, rfl, (Up.trans hU11 (Up.trans u50 (Up.trans u58 (Up.trans u69 (Up.trans u82 (Up.trans u93 (Up.trans u108 (Up.trans u119 u129)))))))), e132, by rw [foldl_take_succ _ _ (show k < (rightP (rulesP rows)).length by omega), tableStep, if_pos (by simpa using hc114)]; exact hO127, mx135, hsb136, by omega⟩
        · omega
        · exact .cons (t := 3) rfl (.cons (t := 7) rfl (.cons (t := 8) rfl (.cons (t := 9) rfl (.nil _))))
      · refine CW.skip ?_
        refine CW.region ?_
        refine WL.add rfl rfl (by omega) ?_
        refine WL.move rfl ?_
        refine WL.nil ?_
        refine Loop.again _ _ ?_ ?_ ⟨k + 1, vl, M90, rfl, rfl, (Up.trans hU11 (Up.trans u50 (Up.trans u58 (Up.trans u69 (Up.trans u82 (Up.trans u93 u108)))))), e109, by rw [foldl_take_succ _ _ (show k < (rightP (rulesP rows)).length by omega), tableStep, if_neg (by simpa using hc114)]; exact hO111, mx100, hsb101, by omega⟩
        · omega
        · exact .cons (t := 3) rfl (.cons (t := 7) rfl (.cons (t := 8) rfl (.cons (t := 9) rfl (.nil _))))
    · refine WL.bslice1 (R := RuleR) (y' := (⟨(rightP (rulesP rows))[k].inn, (rightP (rulesP rows))[k].out⟩ : PRule)) Try.underlying49 ti100 rfl (by decide) (by decide) rfl ⟨_, _, rfl, SlD.sl (hD31.up (Up.trans u50 u58)), SlD.sl (hD32.up (Up.trans u50 u58))⟩ rfl hm60 (fun v137 w138 hS139 he140 => ?_)
      have u141 := Ext.up he140 hm60
      have e142 := Ext.trans e59 he140
      have hm143 := Up.mb u141
      have hO144 := Own.ext hO61 he140 u141 (fun _ h => h)
      have ex145 := Ext.trans ex62 he140
      refine WL.nil ?_
      refine DW.only 1 (by kernel_rfl) rfl (fun _ => ex145) ?_
      have lt146 : ∀ k, Value.ownBlock vl = some k → k < w138.heap.size := fun k hk => (Own.base hO144 k hk).2
      refine WL.appendX Try.underlying49 ti100 rfl (by decide) rfl rfl (Own.nil (R := RuleR) (sz := 2) (e := 100) (w := w138) (M := Mr10) (B := w138.heap.size)) (Own.atl hO144) (Nat.le_refl _) hm143 (by decide) (by simp; omega) (fun v147 w148 M149 hO150 hs151 u152 hsub153 hnew154 => ?_)
      have e155 := Ext.stp e142 hs151 (fun k hk => by simp [Value.ownBlock] at hk)
      have hm156 := Up.mb u152
      have hO157 := Own.step hO144 hs151 (fun k _ h => by simp [Value.ownBlock] at h) u152 (fun k hk => hsub153 k (Own.mem hO144 k hk))
      have ex158 := Ext.stp ex145 hs151 (fun k hk => by simp [Value.ownBlock] at hk)
      have mx159 := fun k h => hsub153 k (hsp17 k h)
      have hsb160 : ∀ k, M k → M149 k := fun k h => hsub153 k (hsb15 k h)
      refine WL.nil ?_
      refine DW.only 4 (by kernel_rfl) rfl (fun _ => ex158) ?_
      refine WL.append Try.underlying49 ti100 rfl (by decide) rfl rfl hO150 (hS139.up u152) (Stp.size (Up.stp u152)) hm156 (by decide) (by simp; omega) (fun v161 w162 M163 hO164 hs165 u166 hsub167 hnew168 => ?_)
      have e169 := Ext.stp e155 hs165 (fun k hk => Nat.le_trans (Stp.size e142) (Own.base hO150 k hk).1)
      have hm170 := Up.mb u166
      have hO171 := Own.step hO157 hs165 (fun k h1 h2 => by have a1 := lt146 k h1; have a2 := (Own.base hO150 k h2).1; omega) u166 (fun k hk => hsub167 k (Own.mem hO157 k hk))
      have ex172 := Ext.stp ex158 hs165 (fun k hk => Nat.le_trans (Stp.size ex145) (Own.base hO150 k hk).1)
      have mx173 := fun k h => hsub167 k (mx159 k h)
      have hsb174 : ∀ k, M k → M163 k := fun k h => hsub167 k (hsb160 k h)
      refine WL.nil ?_
      refine DW.only 5 (by kernel_rfl) rfl (fun _ => ex172) ?_
      obtain ⟨A175, c176, rfl⟩ := Own.form hO164
      refine WL.call Try.func67 rfl rfl (.cons rfl (.nil)) (Closed_spec _ _ (MB.none _) (Own.read00 hO164 hm170) (fun x hx => hne x (by simpa using hx))) (fun _ w178 hr179 => ?_)
      obtain ⟨rfl, he180⟩ := hr179
      have u181 := Ext.up he180 hm170
      have e182 := Ext.trans e169 he180
      have hm183 := Up.mb u181
      have hO184 := Own.ext hO171 he180 u181 (fun _ h => h)
      have hO185 := Own.ext hO164 he180 u181 (fun _ h => h)
      have ex186 := Ext.trans ex172 he180
      refine WL.nil ?_
      refine DW.done (by kernel_rfl) (fun _ => ex186) ?_
      refine CW.condB rfl (fun hc187 => ?_) (fun hc187 => ?_)
      · refine CW.region ?_
        refine WL.move rfl ?_
        refine WL.loadAgg (cs := [.slice A26 ((rightP (rulesP rows))[k].inn.length) c27, .slice A28 ((rightP (rulesP rows))[k].out.length) c29]) ag100 rfl (ha54.up (Up.trans u58 (Up.trans u141 (Up.trans u152 (Up.trans u166 u181))))) ?_
        refine WL.bslice1 (R := RuleR) (y' := (⟨(rightP (rulesP rows))[k].inn, (rightP (rulesP rows))[k].out⟩ : PRule)) Try.underlying49 ti100 rfl (by decide) (by decide) rfl ⟨_, _, rfl, SlD.sl (hD31.up (Up.trans u50 (Up.trans u58 (Up.trans u141 (Up.trans u152 (Up.trans u166 u181)))))), SlD.sl (hD32.up (Up.trans u50 (Up.trans u58 (Up.trans u141 (Up.trans u152 (Up.trans u166 u181))))))⟩ rfl hm183 (fun v188 w189 hS190 he191 => ?_)
        have u192 := Ext.up he191 hm183
        have e193 := Ext.trans e182 he191
        have hm194 := Up.mb u192
        have hO195 := Own.ext hO184 he191 u192 (fun _ h => h)
        have hO196 := Own.ext hO185 he191 u192 (fun _ h => h)
        refine WL.append Try.underlying49 ti100 rfl (by decide) rfl rfl hO195 hS190 (Stp.size e193) hm194 (by decide) (by simp; omega) (fun v197 w198 M199 hO200 hs201 u202 hsub203 hnew204 => ?_)
        have e205 := Ext.stp e193 hs201 (fun k hk => (Own.base hO195 k hk).1)
        have hm206 := Up.mb u202
        have hO207 := Own.step hO196 hs201 (fun k h1 h2 => by have a1 := lt146 k h2; have a2 := (Own.base hO196 k h1).1; omega) u202 (fun k hk => hsub203 k (Own.mem hO196 k hk))
        have mx208 := fun k h => hsub203 k (mx173 k h)
        have hsb209 : ∀ k, M k → M199 k := fun k h => hsub203 k (hsb174 k h)
        refine WL.assign rfl ?_
        refine WL.nil ?_
        refine CW.region ?_
        refine WL.add rfl rfl (by omega) ?_
        refine WL.move rfl ?_
        refine WL.nil ?_
        refine Loop.again _ _ ?_ ?_ ⟨k + 1, v197, M199, rfl, rfl, (Up.trans hU11 (Up.trans u50 (Up.trans u58 (Up.trans u141 (Up.trans u152 (Up.trans u166 (Up.trans u181 (Up.trans u192 u202)))))))), e205, by rw [foldl_take_succ _ _ (show k < (rightP (rulesP rows)).length by omega), tableStep, if_pos (by simpa using hc187)]; exact hO200, mx208, hsb209, by omega⟩
        · omega
        · exact .cons (t := 3) rfl (.cons (t := 7) rfl (.cons (t := 8) rfl (.cons (t := 9) rfl (.nil _))))
      · refine CW.skip ?_
        refine CW.region ?_
        refine WL.add rfl rfl (by omega) ?_
        refine WL.move rfl ?_
        refine WL.nil ?_
        refine Loop.again _ _ ?_ ?_ ⟨k + 1, vl, M163, rfl, rfl, (Up.trans hU11 (Up.trans u50 (Up.trans u58 (Up.trans u141 (Up.trans u152 (Up.trans u166 u181)))))), e182, by rw [foldl_take_succ _ _ (show k < (rightP (rulesP rows)).length by omega), tableStep, if_neg (by simpa using hc187)]; exact hO184, mx173, hsb174, by omega⟩
        · omega
        · exact .cons (t := 3) rfl (.cons (t := 7) rfl (.cons (t := 8) rfl (.cons (t := 9) rfl (.nil _))))
  · refine CW.exit ?_
    refine CW.seq ?_
    refine CW.region ?_
    refine WL.move rfl ?_
    refine WL.assign rfl ?_
    refine WL.nil ?_
    refine CW.ret ?_
    refine Ret.one rfl rfl ?_
    have hk2 : k = (rightP (rulesP rows)).length := by omega
    subst hk2
    exact ⟨by have := Own.read0 hO14 hm13 hsb15 hm; rwa [List.take_length] at this, hE12⟩
end Go.Proofs.Ytgbajkdomcmblaa
