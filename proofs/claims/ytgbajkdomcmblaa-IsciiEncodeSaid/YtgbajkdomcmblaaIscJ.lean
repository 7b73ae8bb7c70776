/- The laws IsciiDecode, IsciiEncode answer true: walks. -/
import Derived.Test.YtgbajkdomcmblaaIscI
namespace Go.Proofs.Ytgbajkdomcmblaa
open Go Go.RowKit Vc
set_option linter.unusedVariables false
set_option linter.unusedSimpArgs false
private theorem mixed : Try.prog.follows .mixedOrders = true := by kernel_rfl
private theorem es29 : elemSize Try.prog 29 = some 1 := by kernel_rfl
private theorem es44 : elemSize Try.prog 44 = some 1 := by kernel_rfl
private theorem es82 : elemSize Try.prog 82 = some 1 := by kernel_rfl
private theorem sc3 : scalar Try.prog 3 = true := by kernel_rfl
private theorem sc5 : scalar Try.prog 5 = true := by kernel_rfl
private theorem sc29 : scalar Try.prog 29 = true := by kernel_rfl
private theorem ti3 : tinfo Try.prog 3 = some (some (.int .i64 0), 1, 8) := by kernel_rfl
private theorem ti29 : tinfo Try.prog 29 = some (some (.slice none 0 0), 1, 24) := by kernel_rfl
private theorem ti58 : tinfo Try.prog 58 = some (some (.agg #[.int .i64 0, .int .i64 0, .slice none 0 0, .int .i64 0]), 4, 48) := by kernel_rfl
def SliR : ER (List Int) := fun w M cs xs => ∃ v, cs = [v] ∧ Sl IntR 1 w M v xs
instance : Stable SliR := ⟨fun h hu => by obtain ⟨v, h1, h2⟩ := h; exact ⟨v, h1, h2.up hu⟩, fun h u hu => by obtain ⟨v, h1, A, c, rfl, _⟩ := h; rw [h1] at hu; simp at hu; subst hu; rfl⟩

theorem idecode_walk (w : World) (M : MS) (hm : MB w M) {Ap1 : Option Addr} {cp1 : Nat} {l : List Int} (h1 : SlD ByteR 1 w M Ap1 cp1 l) {Ap2 : Option Addr} {cp2 : Nat} {l2 : List Int} (h2 : SlD ByteR 1 w M Ap2 cp2 l2) :
    Fc Try.prog 15 #[.slice Ap1 l.length cp1, .slice Ap2 l2.length cp2] w fun v w' => v = .bool true ∧ Ext w w' := by
  have e0 := Stp.refl w (NoM : MS)
  have hs00 : Ms M M := fun _ h => h
  have hlim := h1.lim
  have hlim2 := h2.lim
  have hbl := bytes_len l
  have htl2 : (l2.take 60).length ≤ 60 := by rw [List.length_take]; omega
  refine Fc.enter (n := 83) [(0, .slice Ap1 l.length cp1), (1, .slice Ap2 l2.length cp2)] Try.func15 rfl rfl (Nat.le_of_ble_eq_true rfl) (.cons rfl (.cons rfl (.nil _))) ?_
  refine CW.seq ?_
  refine CW.region ?_
  refine WL.assign rfl ?_
  refine WL.nil ?_
  refine CW.seq ?_
  refine CW.seq ?_
  refine CW.region ?_
  refine WL.call Try.func40 rfl rfl (.nil) (iawake_spec _ _ hm) (fun _ w1 hr2 => ?_)
  obtain ⟨rfl, he3⟩ := hr2
  have u4 := Ext.up he3 hm
  have e5 := Stp.ext e0 he3
  have hm6 := Up.mb u4
  refine WL.not_ rfl ?_
  refine WL.nil ?_
  refine CW.condF rfl ?_
  refine CW.skip ?_
  refine CW.seq ?_
  refine CW.region ?_
  refine WL.assign rfl ?_
  refine WL.nil ?_
  refine CW.seq ?_
  refine CW.seq ?_
  refine CW.region ?_
  refine WL.move rfl ?_
  refine WL.move rfl ?_
  refine WL.len Try.underlying44 rfl ?_
  refine WL.imin rfl rfl ?_
  obtain ⟨A7, c8, hRn9, hD10, hl11⟩ := SlD.cutH (h2.up u4) (i := min (l2.length : Int) 60) (by (first | omega | (show _ < 2; omega))) (by (first | omega | (show _ < 2; omega)))
  have hy12 : (l2.take (min (l2.length : Int) 60).toNat) = l2.take 60 := by exact take_min l2 60
  rw [hy12] at hD10 hl11
  simp only [hy12] at hRn9
  refine WL.rn (hRn9 es44 rfl rfl) ?_
  refine WL.len Try.underlying44 rfl ?_
  refine WL.move rfl ?_
  refine WL.nil ?_
  refine CW.block ?_
  have hO13 : Own IntR 1 3 w1 M 0 (.slice none 0 0) [] := Own.nil
  refine CW.loop (fun m σ wr0 => ∃ k : Nat, ∃ Mr14 : MS, ∃ A21 : Option Addr, ∃ n22 : Nat, ∃ c23 : Nat, m = (l2.take 60).length - k ∧ σ = [(0, .slice Ap1 l.length cp1), (5, .slice A21 n22 c23), (22, .slice A7 ((l2.take 60).length) c8), (23, .int .i64 ((l2.take 60).length : Int)), (24, .int .i64 (k : Int))] ∧ (Up w1 M wr0 Mr14) ∧ (Stp w wr0 NoM) ∧ (Ms M Mr14) ∧ (Ms M Mr14) ∧ (Own IntR 1 3 wr0 Mr14 0 (.slice A21 n22 c23) ((l2.take 60).take k)) ∧ (Ms (ob (.slice A21 n22 c23)) Mr14) ∧ (∀ q_, (ob (.slice A21 n22 c23)) q_ → w.heap.size ≤ q_) ∧ (k ≤ (l2.take 60).length)) _ _ (.cons (t := 0) rfl (.cons (t := 5) rfl (.cons (t := 22) rfl (.cons (t := 23) rfl (.cons (t := 24) rfl (.nil _)))))) ⟨0, M, none, 0, 0, rfl, rfl, Up.refl hm6, e5, fun _ h => h, hs00, hO13, (Ms.nil M), (Fr.nil w.heap.size), by omega⟩ ?_
  rintro m _ wr0 ⟨k, Mr14, A21, n22, c23, rfl, rfl, hU15, hE16, hsp18, hsb19, h20, mem24, wr25, hk⟩
  have hm17 := Up.mb hU15
  obtain rfl := Own.n h20
  have hlen26 := Own.len h20
  have hkl2 : ((l2.take 60).take k).length = k := by rw [List.length_take]; omega
  refine CW.seq ?_
  refine CW.region ?_
  refine WL.lss rfl rfl ?_
  refine WL.nil ?_
  refine CW.seq ?_
  refine CW.condP rfl (fun hc27 => ?_) (fun hc27 => ?_)
  · have hkl : k < (l2.take 60).length := by omega
    refine CW.skip ?_
    refine CW.seq ?_
    refine CW.block ?_
    refine CW.seq ?_
    refine CW.region ?_
    have hlt28 : k < (l2.take 60).length := by (first | omega | (show _ < 2; omega))
    obtain ⟨ad29, cs30, hA31, hs32, hat33, hR34⟩ := SlD.get (hD10.up hU15) (List.getElem?_eq_getElem hlt28)
    rw [show _ = _ from hR34.1] at hat33
    have hhR34 := hR34.2
    refine WL.idx es44 rfl rfl hA31 (by omega) (by omega) ?_
    refine WL.load sc5 rfl (hat33.cell 0 _ rfl) ?_
    refine WL.assign rfl ?_
    refine WL.nil ?_
    refine CW.region ?_
    refine WL.move rfl ?_
    refine WL.move rfl ?_
    refine WL.convert (by rw [Try.underlying5]; rfl) Try.underlying3 rfl (wrapI64 (by omega)) ?_
    refine WL.bslice1 (R := IntR) (y' := (l2.take 60)[k]) Try.underlying29 ti3 rfl (by decide) (by decide) rfl ⟨rfl, by omega⟩ rfl hm17 (fun v35 w36 hS37 he38 => ?_)
    obtain ⟨A39, c40, rfl, hD41⟩ := hS37
    have u42 := Ext.up he38 hm17
    have e43 := Stp.ext hE16 he38
    have hm44 := Up.mb u42
    have h54 := Own.ext h20 he38 u42 (fun _ h => h)
    refine WL.appendR Try.underlying29 ti3 rfl (by decide) rfl rfl h54 (Sl.atl (SlD.sl hD41)) hm44 (by decide) (by first | omega | (simp; omega)) (fun A45 c46 w47 M48 hO49 hs50 u51 hsub52 hnew53 => ?_)
    have e55 := Stp.wr e43 hs50 (Wr.ofFr NoM wr25)
    have hm56 := Up.mb u51
    have hs057 : Ms M M48 := fun k h => hsub52 k (hsb19 k h)
    have hs058 : Ms M M48 := fun k h => hsub52 k (hsp18 k h)
    have fr60 := Ge.grow wr25 hnew53 (Stp.size e43)
    refine WL.assign rfl ?_
    refine WL.nil ?_
    refine CW.region ?_
    refine WL.add rfl rfl (by omega) ?_
    refine WL.move rfl ?_
    refine WL.nil ?_
    refine Loop.again _ _ ?_ ?_ ⟨k + 1, M48, A45, (((l2.take 60).take k) ++ [(l2.take 60)[k]]).length, c46, rfl, rfl, (Up.trans hU15 (Up.trans u42 u51)), e55, hs058, hs057, Own.eq hO49 (List.take_succ_eq_append_getElem hkl).symm, (Own.ms hO49), fr60, by omega⟩
    · omega
    · exact .cons (t := 0) rfl (.cons (t := 5) rfl (.cons (t := 22) rfl (.cons (t := 23) rfl (.cons (t := 24) rfl (.nil _)))))
  · have hke : k = (l2.take 60).length := by omega
    have hLS : ∀ y ∈ ([bytesP l, (l2.take 60).take k] : List (List Int)), y.length ≤ 120 := by
      intro y hy
      simp only [List.mem_cons, List.not_mem_nil, or_false] at hy
      rcases hy with rfl | rfl
      · omega
      · rw [List.length_take]; omega
    have hD61 := Own.freeze h20 hm17
    have u62 := Up.freeze hm17 (ob (.slice A21 ((l2.take 60).take k).length c23))
    have hs063 : Ms M (less Mr14 (ob (.slice A21 ((l2.take 60).take k).length c23))) := Ms.less hsb19 (Dj.symm (Dj.fresh wr25 (fun _ h => h) hm))
    have hm64 := Up.mb u62
    refine CW.exit ?_
    refine CW.seq ?_
    refine CW.seq ?_
    refine CW.region ?_
    refine WL.move rfl ?_
    refine WL.call Try.func54 rfl rfl (.cons rfl (.nil)) (bytes_spec _ _ hm64 (h1.up (Up.trans u4 (Up.trans hU15 u62)))) (fun _ w65 hr66 => ?_)
    obtain ⟨M67, hP68⟩ := hr66
    obtain ⟨A69, c70, rfl⟩ := Own.form hP68.own
    have e71 := Stp.ext hE16 (NewR.ext hP68)
    have hm72 := Up.mb (NewR.up hP68)
    have hs073 : Ms M M67 := fun k h => (NewR.ms hP68) k (hs063 k h)
    have fr74 := Ge.le (NewR.new hP68) (Stp.size hE16)
    have hD75 := Own.freeze (NewR.own hP68) hm72
    have u76 := Up.freeze hm72 (ob (.slice A69 (bytesP l).length c70))
    have hs077 : Ms M (less M67 (ob (.slice A69 (bytesP l).length c70))) := Ms.less hs073 (Dj.symm (Dj.fresh (Ge.le (NewR.new hP68) (Stp.size (Up.stp (Up.trans u4 (Up.trans hU15 u62))))) (fun _ h => h) hm))
    have hm78 := Up.mb u76
    refine WL.move rfl ?_
    refine WL.bslice Try.underlying82 ti29 rfl (by decide) (by decide) (.cons rfl (.cons rfl .nil)) rfl (by simp [Value.cells]) (fun g79 w80 hg81 hb82 he83 => ?_)
    have u85 := Ext.up he83 hm78
    have e86 := Stp.ext e71 he83
    have hm87 := Up.mb u85
    have hD84 : SlD SliR 1 w80 (less M67 (ob (.slice A69 (bytesP l).length c70))) (some ⟨g79, 0, none⟩) 2 ([bytesP l, (l2.take 60).take k] : List (List Int)) := Bk.sl2 (R := SliR) (sz := 1) (css := [[.slice A69 ((bytesP l).length) c70], [.slice A21 (((l2.take 60).take k).length) c23]]) (ys := ([bytesP l, (l2.take 60).take k] : List (List Int))) hb82 (.cons ⟨rfl, _, rfl, SlD.sl (hD75.up u85)⟩ (.cons ⟨rfl, _, rfl, SlD.sl (hD61.up (Up.trans (NewR.up hP68) (Up.trans u76 u85)))⟩ (.nil))) (MB.fresh hm78 hg81) (show 2 ≤ 9223372036854775807 by decide)
    refine WL.len Try.underlying82 rfl ?_
    refine WL.move rfl ?_
    refine WL.nil ?_
    refine CW.block ?_
    refine CW.loop (fun m σ wr1 => ∃ i : Nat, ∃ Mr88 : MS, m = 2 - i ∧ σ = [(37, .slice (some ⟨g79, 0, none⟩) 2 2), (38, .int .i64 2), (39, .int .i64 (i : Int))] ∧ (Up w80 (less M67 (ob (.slice A69 (bytesP l).length c70))) wr1 Mr88) ∧ (Stp w wr1 NoM) ∧ (Ms (less M67 (ob (.slice A69 (bytesP l).length c70))) Mr88) ∧ (Ms M Mr88) ∧ (i ≤ 2)) _ _ (.cons (t := 37) rfl (.cons (t := 38) rfl (.cons (t := 39) rfl (.nil _)))) ⟨0, (less M67 (ob (.slice A69 (bytesP l).length c70))), rfl, rfl, Up.refl hm87, e86, fun _ h => h, hs077, by omega⟩ ?_
    rintro m _ wr1 ⟨i, Mr88, rfl, rfl, hU89, hE90, hsp92, hsb93, hi⟩
    have hm91 := Up.mb hU89
    refine CW.seq ?_
    refine CW.region ?_
    refine WL.lss rfl rfl ?_
    refine WL.nil ?_
    refine CW.seq ?_
    refine CW.condP rfl (fun hc94 => ?_) (fun hc94 => ?_)
    · have hil : i < ([bytesP l, (l2.take 60).take k] : List (List Int)).length := by show i < 2; omega
      have hxl := hLS _ (List.getElem_mem hil)
      refine CW.skip ?_
      refine CW.seq ?_
      refine CW.block ?_
      refine CW.seq ?_
      refine CW.region ?_
      have hlt95 : i < ([bytesP l, (l2.take 60).take k] : List (List Int)).length := by (first | omega | (show _ < 2; omega))
      obtain ⟨ad96, cs97, hA98, hs99, hat100, hR101⟩ := SlD.get (hD84.up hU89) (List.getElem?_eq_getElem hlt95)
      obtain ⟨_, hx105, ⟨A102, c103, rfl, hD104⟩⟩ := hR101
      rw [hx105] at hat100
      have hl106 := SlD.lim hD104
      refine WL.idx es82 rfl rfl hA98 (by omega) (by omega) ?_
      refine WL.load sc29 rfl (hat100.cell 0 _ rfl) ?_
      refine WL.assign rfl ?_
      refine WL.nil ?_
      refine CW.seq ?_
      refine CW.region ?_
      refine WL.call Try.func46 rfl rfl (.nil) (idecode_spec _ _ hm91) (fun _ w107 hr108 => ?_)
      obtain ⟨g109, rfl, M110, S111, hI112, hnw113, hu114, hms115, he116⟩ := hr108
      have hI117 : IDecR g109 w107 M110 S111 dec0 := hI112
      have e118 := Stp.ext hE90 he116
      have hm119 := Up.mb hu114
      have hs0120 : Ms M M110 := fun k h => hms115 k (hsb93 k h)
      have hs0121 : Ms (less M67 (ob (.slice A69 (bytesP l).length c70))) M110 := fun k h => hms115 k (hsp92 k h)
      have fr122 := Ge.le hnw113 (Stp.size hE90)
      refine WL.assign rfl ?_
      refine WL.nil ?_
      refine CW.seq ?_
      refine CW.seq ?_
      refine CW.region ?_
      refine WL.move rfl ?_
      refine WL.rn (Rn.pnil Try.underlying77 rfl) ?_
      refine WL.nil ?_
      refine CW.condF rfl ?_
      refine CW.skip ?_
      refine CW.seq ?_
      refine CW.region ?_
      refine WL.assign rfl ?_
      refine WL.nil ?_
      refine CW.seq ?_
      refine CW.seq ?_
      refine CW.region ?_
      refine WL.move rfl ?_
      refine WL.len Try.underlying29 rfl ?_
      refine WL.move rfl ?_
      refine WL.nil ?_
      refine CW.block ?_
      have hO123 : Own TokR 4 58 w107 M110 0 (.slice none 0 0) [] := Own.nil
      have dj124 : Dj (ob (.slice none 0 0)) S111 := Dj.nil _
      refine CW.loop (fun m σ wr2 => ∃ j : Nat, ∃ s1 : IDec, ∃ T1 : List PTok, ∃ Sg : MS, ∃ Mr125 : MS, ∃ A133 : Option Addr, ∃ n134 : Nat, ∃ c135 : Nat, m = [bytesP l, (l2.take 60).take k][i].length - j ∧ σ = [(9, .slice A102 (([bytesP l, (l2.take 60).take k] : List (List Int))[i].length) c103), (10, .pointer (some ⟨g109, 0, none⟩)), (11, .slice A133 n134 c135), (37, .slice (some ⟨g79, 0, none⟩) 2 2), (38, .int .i64 2), (39, .int .i64 (i : Int)), (46, .slice A102 (([bytesP l, (l2.take 60).take k] : List (List Int))[i].length) c103), (47, .int .i64 (([bytesP l, (l2.take 60).take k] : List (List Int))[i].length : Int)), (48, .int .i64 (j : Int))] ∧ (Up w107 M110 wr2 Mr125) ∧ (Stp w wr2 NoM) ∧ (Ms M110 Mr125) ∧ (Ms M Mr125) ∧ (IDecR g109 wr2 Mr125 Sg s1) ∧ (Own TokR 4 58 wr2 Mr125 0 (.slice A133 n134 c135) (T1)) ∧ (Ms (Sg) Mr125) ∧ (∀ q_, (Sg) q_ → w.heap.size ≤ q_) ∧ (∀ q_, (Sg) q_ → w80.heap.size ≤ q_) ∧ (Dj (Sg) (ob (.slice A133 n134 c135))) ∧ (Ms (ob (.slice A133 n134 c135)) Mr125) ∧ (∀ q_, (ob (.slice A133 n134 c135)) q_ → w.heap.size ≤ q_) ∧ (∀ q_, (ob (.slice A133 n134 c135)) q_ → w80.heap.size ≤ q_) ∧ (j ≤ [bytesP l, (l2.take 60).take k][i].length) ∧ (runP idecPut ([bytesP l, (l2.take 60).take k][i].take j) dec0 = (T1, s1))) _ _ (.cons (t := 9) rfl (.cons (t := 10) rfl (.cons (t := 11) rfl (.cons (t := 37) rfl (.cons (t := 38) rfl (.cons (t := 39) rfl (.cons (t := 46) rfl (.cons (t := 47) rfl (.cons (t := 48) rfl (.nil _)))))))))) ⟨0, dec0, [], S111, M110, none, 0, 0, rfl, rfl, Up.refl hm119, e118, fun _ h => h, hs0120, hI117, hO123, (IDecR.ms hI117), fr122, (Ge.le hnw113 (Stp.size (Up.stp hU89))), (Dj.symm dj124), (Ms.nil M110), (Fr.nil w.heap.size), (Fr.nil w80.heap.size), by omega, rfl⟩ ?_
      rintro m _ wr2 ⟨j, s1, T1, Sg, Mr125, A133, n134, c135, rfl, rfl, hU126, hE127, hsp129, hsb130, h131, h132, mem136, wr137, ge138, dj139, mem140, wr141, ge142, hj, hr1⟩
      have hm128 := Up.mb hU126
      have hs0143 : Ms (less M67 (ob (.slice A69 (bytesP l).length c70))) Mr125 := fun k h => hsp129 k (hs0121 k h)
      obtain rfl := Own.n h132
      have hlen144 := Own.len h132
      have hf1 := idec_facts hr1
      have htl : ([bytesP l, (l2.take 60).take k][i].take j).length = j := by rw [List.length_take]; omega
      refine CW.seq ?_
      refine CW.region ?_
      refine WL.lss rfl rfl ?_
      refine WL.nil ?_
      refine CW.seq ?_
      refine CW.condP rfl (fun hc145 => ?_) (fun hc145 => ?_)
      · have hjl : j < [bytesP l, (l2.take 60).take k][i].length := by omega
        have hE := idec_put_facts hr1 [bytesP l, (l2.take 60).take k][i][j] (by omega)
        refine CW.skip ?_
        refine CW.seq ?_
        refine CW.block ?_
        refine CW.seq ?_
        refine CW.region ?_
        have hlt146 : j < (([bytesP l, (l2.take 60).take k] : List (List Int))[i]).length := by (first | omega | (show _ < 2; omega))
        obtain ⟨ad147, cs148, hA149, hs150, hat151, hR152⟩ := SlD.get (hD104.up (Up.trans hu114 hU126)) (List.getElem?_eq_getElem hlt146)
        rw [show _ = _ from hR152.1] at hat151
        have hhR152 := hR152.2; simp only [I64] at hhR152
        refine WL.idx es29 rfl rfl hA149 (by omega) (by omega) ?_
        refine WL.load sc3 rfl (hat151.cell 0 _ rfl) ?_
        refine WL.assign rfl ?_
        refine WL.nil ?_
        refine CW.region ?_
        refine WL.move rfl ?_
        refine WL.move rfl ?_
        refine WL.move rfl ?_
        refine WL.call Try.func48 rfl rfl (.cons rfl (.cons rfl (.nil))) (idecPut_spec _ _ hm128 h131 (idec_ok hr1 (by omega)) ((([bytesP l, (l2.take 60).take k] : List (List Int))[i])[j]) (by simp only [I64]; omega)) (fun _ w153 hr154 => ?_)
        obtain ⟨M155, S156, hP157, hM158⟩ := hr154
        have hP161 : PutR wr2 Mr125 Sg w153 M155 S156 _ ((idecPut s1 ((([bytesP l, (l2.take 60).take k] : List (List Int))[i])[j])).1) := hP157
        obtain ⟨A159, c160, rfl⟩ := Own.form hP161.own
        have hM162 : IDecR g109 w153 M155 S156 (idecPut s1 ((([bytesP l, (l2.take 60).take k] : List (List Int))[i])[j])).2 := hM158
        have e163 := Stp.wr hE127 (PutR.stp hP161) (Wr.ofFr NoM wr137)
        have hm164 := Up.mb (PutR.up hP161)
        have hs0165 : Ms M M155 := fun k h => (PutR.ms hP161) k (hsb130 k h)
        have hs0166 : Ms (less M67 (ob (.slice A69 (bytesP l).length c70))) M155 := fun k h => (PutR.ms hP161) k (hs0143 k h)
        have hs0167 : Ms M110 M155 := fun k h => (PutR.ms hP161) k (hsp129 k h)
        have dj168 := Dj.grow dj139 (PutR.wr hP161) mem140 hm128
        have fr170 := Ge.grow wr137 (PutR.wr hP161) (Stp.size hE127)
        have ge171 := Ge.grow ge138 (PutR.wr hP161) (Stp.size (Up.stp (Up.trans hU89 (Up.trans hu114 hU126))))
        have dj172 := Dj.fresh (T := (ob (.slice A133 T1.length c135))) (PutR.new hP161) mem140 hm128
        have fr173 := Ge.le (PutR.new hP161) (Stp.size hE127)
        have mem183 : Ms (ob (.slice A133 T1.length c135)) M155 := (fun k h => (PutR.ms hP161) k (mem140 k h))
        have h184 := Own.step h132 (PutR.stp hP161) (Dj.symm dj139) (PutR.up hP161) mem183
        refine WL.appendR Try.underlying55 ti58 rfl (by decide) rfl rfl h184 (Own.atl (PutR.own hP161)) hm164 (by decide) (by first | omega | (simp; omega)) (fun A174 c175 w176 M177 hO178 hs179 u180 hsub181 hnew182 => ?_)
        have e185 := Stp.wr e163 hs179 (Wr.ofFr NoM wr141)
        have hm186 := Up.mb u180
        have hs0187 : Ms M M177 := fun k h => hsub181 k (hs0165 k h)
        have hs0188 : Ms (less M67 (ob (.slice A69 (bytesP l).length c70))) M177 := fun k h => hsub181 k (hs0166 k h)
        have hs0189 : Ms M110 M177 := fun k h => hsub181 k (hs0167 k h)
        have dj190 := Dj.grow (Dj.symm dj168) hnew182 (IDecR.ms hM162) hm164
        have dj191 := Dj.grow (Dj.symm dj172) hnew182 (Own.ms (PutR.own hP161)) hm164
        have fr193 := Ge.grow wr141 hnew182 (Stp.size e163)
        have ge194 := Ge.grow ge142 hnew182 (Stp.size (Up.stp (Up.trans hU89 (Up.trans hu114 (Up.trans hU126 (PutR.up hP161))))))
        refine WL.assign rfl ?_
        refine WL.nil ?_
        refine CW.region ?_
        refine WL.add rfl rfl (by omega) ?_
        refine WL.move rfl ?_
        refine WL.nil ?_
        have mem195 : Ms S156 M177 := (fun k h => hsub181 k ((IDecR.ms hM162) k h))
        have h196 := IDecR.step hM162 hs179 dj168 u180 mem195
        refine Loop.again _ _ ?_ ?_ ⟨j + 1, (idecPut s1 [bytesP l, (l2.take 60).take k][i][j]).2, T1 ++ (idecPut s1 [bytesP l, (l2.take 60).take k][i][j]).1, S156, M177, A174, (T1 ++ ((idecPut s1 ((([bytesP l, (l2.take 60).take k] : List (List Int))[i])[j])).1)).length, c175, rfl, rfl, (Up.trans hU126 (Up.trans (PutR.up hP161) u180)), e185, hs0189, hs0187, h196, hO178, mem195, fr170, ge171, (Dj.symm dj190), (Own.ms hO178), fr193, ge194, by omega, run_take_succ _ hjl hr1⟩
        · omega
        · exact .cons (t := 9) rfl (.cons (t := 10) rfl (.cons (t := 11) rfl (.cons (t := 37) rfl (.cons (t := 38) rfl (.cons (t := 39) rfl (.cons (t := 46) rfl (.cons (t := 47) rfl (.cons (t := 48) rfl (.nil _)))))))))
      · have hje : j = [bytesP l, (l2.take 60).take k][i].length := by omega
        have hrE : runP idecPut [bytesP l, (l2.take 60).take k][i] dec0 = (T1, s1) := by rw [← hr1, hje, List.take_length]
        have hF := idec_fin_facts hrE (by omega)
        have hall : allP idecPut idecFin [bytesP l, (l2.take 60).take k][i] dec0 = (T1 ++ (idecFin s1).1, (idecFin s1).2) := by simp only [allP, hrE]
        rw [all_idec] at hall
        have hsame : T1 ++ (idecFin s1).1 = (meanT 0 (batchP indR [bytesP l, (l2.take 60).take k][i] 0)).1 := (congrArg Prod.fst hall).symm
        have hst := (congrArg Prod.snd hall).symm
        simp only [] at hst
        have hscr : (idecFin s1).2.sc = (meanT 0 (batchP indR [bytesP l, (l2.take 60).take k][i] 0)).2 := by rw [hst]
        have hheld : (((idecFin s1).2.m.1.length : Nat) : Int) = 0 := by rw [hst]; rfl
        refine CW.exit ?_
        refine CW.seq ?_
        refine CW.region ?_
        refine WL.move rfl ?_
        refine WL.move rfl ?_
        refine WL.call Try.func49 rfl rfl (.cons rfl (.nil)) (idecEnd_spec _ _ hm128 h131 (idec_ok hrE (by omega))) (fun _ w197 hr198 => ?_)
        obtain ⟨M199, S200, hP201, hM202⟩ := hr198
        have hP205 : PutR wr2 Mr125 Sg w197 M199 S200 _ ((idecFin s1).1) := hP201
        obtain ⟨A203, c204, rfl⟩ := Own.form hP205.own
        have hM206 : IDecR g109 w197 M199 S200 (idecFin s1).2 := hM202
        have e207 := Stp.wr hE127 (PutR.stp hP205) (Wr.ofFr NoM wr137)
        have hm208 := Up.mb (PutR.up hP205)
        have hs0209 : Ms M M199 := fun k h => (PutR.ms hP205) k (hsb130 k h)
        have hs0210 : Ms (less M67 (ob (.slice A69 (bytesP l).length c70))) M199 := fun k h => (PutR.ms hP205) k (hs0143 k h)
        have dj211 := Dj.grow dj139 (PutR.wr hP205) mem140 hm128
        have fr213 := Ge.grow wr137 (PutR.wr hP205) (Stp.size hE127)
        have ge214 := Ge.grow ge138 (PutR.wr hP205) (Stp.size (Up.stp (Up.trans hU89 (Up.trans hu114 hU126))))
        have dj215 := Dj.fresh (T := (ob (.slice A133 T1.length c135))) (PutR.new hP205) mem140 hm128
        have fr216 := Ge.le (PutR.new hP205) (Stp.size hE127)
        have mem226 : Ms (ob (.slice A133 T1.length c135)) M199 := (fun k h => (PutR.ms hP205) k (mem140 k h))
        have h227 := Own.step h132 (PutR.stp hP205) (Dj.symm dj139) (PutR.up hP205) mem226
        refine WL.appendR Try.underlying55 ti58 rfl (by decide) rfl rfl h227 (Own.atl (PutR.own hP205)) hm208 (by decide) (by first | omega | (simp; omega)) (fun A217 c218 w219 M220 hO221 hs222 u223 hsub224 hnew225 => ?_)
        have e228 := Stp.wr e207 hs222 (Wr.ofFr NoM wr141)
        have hm229 := Up.mb u223
        have hs0230 : Ms M M220 := fun k h => hsub224 k (hs0209 k h)
        have hs0231 : Ms (less M67 (ob (.slice A69 (bytesP l).length c70))) M220 := fun k h => hsub224 k (hs0210 k h)
        have dj232 := Dj.grow (Dj.symm dj211) hnew225 (IDecR.ms hM206) hm208
        have dj233 := Dj.grow (Dj.symm dj215) hnew225 (Own.ms (PutR.own hP205)) hm208
        have fr235 := Ge.grow wr141 hnew225 (Stp.size e207)
        have ge236 := Ge.grow ge142 hnew225 (Stp.size (Up.stp (Up.trans hU89 (Up.trans hu114 (Up.trans hU126 (PutR.up hP205))))))
        refine WL.assign rfl ?_
        refine WL.nil ?_
        refine CW.seq ?_
        refine CW.region ?_
        refine WL.move rfl ?_
        refine WL.call Try.func55 rfl rfl (.cons rfl (.nil)) (lawDecode_spec _ _ hm229 (hD104.up (Up.trans hu114 (Up.trans hU126 (Up.trans (PutR.up hP205) u223)))) (by omega)) (fun _ w237 hr238 => ?_)
        obtain ⟨M239, v240, rfl, hP241⟩ := hr238
        obtain ⟨A242, c243, rfl⟩ := Own.form hP241.own
        have e244 := Stp.ext e228 (NewR.ext hP241)
        have hm245 := Up.mb (NewR.up hP241)
        have hs0246 : Ms M M239 := fun k h => (NewR.ms hP241) k (hs0230 k h)
        have hs0247 : Ms (less M67 (ob (.slice A69 (bytesP l).length c70))) M239 := fun k h => (NewR.ms hP241) k (hs0231 k h)
        have mem249 : Ms S200 M220 := (fun k h => hsub224 k ((IDecR.ms hM206) k h))
        have dj248 := Dj.fresh (T := S200) (NewR.new hP241) mem249 hm229
        have dj250 := Dj.fresh (T := (ob (.slice A217 (T1 ++ ((idecFin s1).1)).length c218))) (NewR.new hP241) (Own.ms hO221) hm229
        have mem252 : Ms (ob (.slice A203 ((idecFin s1).1).length c204)) M220 := (fun k h => hsub224 k ((Own.ms (PutR.own hP205)) k h))
        have dj251 := Dj.fresh (T := (ob (.slice A203 ((idecFin s1).1).length c204))) (NewR.new hP241) mem252 hm229
        have fr253 := Ge.le (NewR.new hP241) (Stp.size e228)
        refine WL.move rfl ?_
        refine WL.extract rfl rfl ?_
        refine WL.extract rfl rfl ?_
        refine WL.assign rfl ?_
        refine WL.assign rfl ?_
        refine WL.nil ?_
        refine CW.seq ?_
        refine CW.region ?_
        refine WL.move rfl ?_
        refine WL.move rfl ?_
        have h254 := Own.ext hO221 (NewR.ext hP241) (NewR.up hP241) (NewR.ms hP241)
        refine WL.call Try.func33 rfl rfl (.cons rfl (.cons rfl (.nil))) (Same_spec _ _ (MB.none _) (Own.read00 h254 hm245) (Own.read00 (NewR.own hP241) hm245)) (fun _ w255 hr256 => ?_)
        obtain ⟨rfl, he257⟩ := hr256
        have u258 := Ext.up he257 hm245
        have e259 := Stp.ext e244 he257
        have hm260 := Up.mb u258
        refine WL.not_ rfl ?_
        refine WL.move rfl ?_
        have hev261 : (!decide (T1 ++ ((idecFin s1).1) = (meanT 0 (batchP indR [bytesP l, (l2.take 60).take k][i] 0)).1)) = false := by rw [decide_eq_true (show T1 ++ ((idecFin s1).1) = (meanT 0 (batchP indR [bytesP l, (l2.take 60).take k][i] 0)).1 from hsame)]; rfl
        refine WL.gtake rfl rfl hev261 ?_
        refine WL.move rfl ?_
        refine WL.gtake rfl rfl hev261 ?_
        have h262 := IDecR.step hM206 hs222 dj211 u223 mem249
        have mem263 : Ms S200 M239 := (fun k h => (NewR.ms hP241) k (mem249 k h))
        have h264 := IDecR.step h262 (NewR.ext hP241) (fun _ _ h => h) (NewR.up hP241) mem263
        have h265 := IDecR.step h264 he257 (fun _ _ h => h) u258 mem263
        refine WL.call Try.func50 rfl rfl (.cons rfl (.nil)) (idecScript_spec _ _ hm260 h265) (fun _ w266 hr267 => ?_)
        obtain ⟨rfl, he268⟩ := hr267
        have u269 := Ext.up he268 hm260
        have e270 := Stp.ext e259 he268
        have hm271 := Up.mb u269
        refine WL.gtake rfl rfl hev261 ?_
        refine WL.move rfl ?_
        refine WL.gtake rfl rfl hev261 ?_
        refine WL.neq rfl rfl ?_
        refine WL.pickF (congrArg (fun b => some (Value.bool b)) hev261) rfl ?_
        refine WL.move rfl ?_
        have hev272 : ¬ ((idecFin s1).2.sc ≠ (meanT 0 (batchP indR [bytesP l, (l2.take 60).take k][i] 0)).2) := fun h_ => h_ hscr
        refine WL.gtake rfl rfl (decide_eq_false hev272) ?_
        refine WL.move rfl ?_
        refine WL.gtake rfl rfl (decide_eq_false hev272) ?_
        have h273 := IDecR.step h265 he268 (fun _ _ h => h) u269 mem263
        refine WL.call Try.func56 rfl rfl (.cons rfl (.nil)) (idecHeld_spec _ _ hm271 h273) (fun _ w274 hr275 => ?_)
        obtain ⟨rfl, he276⟩ := hr275
        have u277 := Ext.up he276 hm271
        have e278 := Stp.ext e270 he276
        have hm279 := Up.mb u277
        refine WL.gtake rfl rfl (decide_eq_false hev272) ?_
        refine WL.neq rfl rfl ?_
        refine WL.pickF (congrArg (fun b => some (Value.bool b)) (decide_eq_false hev272)) rfl ?_
        refine WL.nil ?_
        have hev280 : ¬ (((idecFin s1).2.m.1.length : Int) ≠ 0) := fun h_ => h_ hheld
        refine CW.condP rfl (fun hn => absurd hn hev280) (fun _ => ?_)
        refine CW.skip ?_
        refine CW.region ?_
        refine WL.add rfl rfl (by omega) ?_
        refine WL.move rfl ?_
        refine WL.nil ?_
        refine Loop.again _ _ ?_ ?_ ⟨i + 1, M239, rfl, rfl, (Up.trans hU89 (Up.trans hu114 (Up.trans hU126 (Up.trans (PutR.up hP205) (Up.trans u223 (Up.trans (NewR.up hP241) (Up.trans u258 (Up.trans u269 u277)))))))), e278, hs0247, hs0246, by omega⟩
        · omega
        · exact .cons (t := 37) rfl (.cons (t := 38) rfl (.cons (t := 39) rfl (.nil _)))
    · refine CW.exit ?_
      refine CW.seq ?_
      refine CW.region ?_
      refine WL.assign rfl ?_
      refine WL.nil ?_
      refine CW.ret ?_
      refine Ret.one rfl rfl ?_
      exact ⟨rfl, hE90⟩

theorem iencode_walk (w : World) (M : MS) (hm : MB w M) {Ap1 : Option Addr} {cp1 : Nat} {l : List Int} (h1 : SlD ByteR 1 w M Ap1 cp1 l) {Ap2 : Option Addr} {cp2 : Nat} {l2 : List Int} (h2 : SlD IntR 1 w M Ap2 cp2 l2) :
    Fc Try.prog 14 #[.slice Ap1 l.length cp1, .slice Ap2 l2.length cp2] w fun v w' => v = .bool true ∧ Ext w w' := by
  have e0 := Stp.refl w (NoM : MS)
  have hs00 : Ms M M := fun _ h => h
  have hlim := h1.lim
  have hlim2 := h2.lim
  have hbl := scl_len l
  have htl2 : (l2.take 60).length ≤ 60 := by rw [List.length_take]; omega
  have hLS : ∀ y ∈ ([sclP l, l2.take 60] : List (List Int)), y.length ≤ 120 := by
    intro y hy
    simp only [List.mem_cons, List.not_mem_nil, or_false] at hy
    rcases hy with rfl | rfl <;> omega
  refine Fc.enter (n := 68) [(0, .slice Ap1 l.length cp1), (1, .slice Ap2 l2.length cp2)] Try.func14 rfl rfl (Nat.le_of_ble_eq_true rfl) (.cons rfl (.cons rfl (.nil _))) ?_
  refine CW.seq ?_
  refine CW.region ?_
  refine WL.assign rfl ?_
  refine WL.nil ?_
  refine CW.seq ?_
  refine CW.seq ?_
  refine CW.region ?_
  refine WL.call Try.func40 rfl rfl (.nil) (iawake_spec _ _ hm) (fun _ w1 hr2 => ?_)
  obtain ⟨rfl, he3⟩ := hr2
  have u4 := Ext.up he3 hm
  have e5 := Stp.ext e0 he3
  have hm6 := Up.mb u4
  refine WL.not_ rfl ?_
  refine WL.nil ?_
  refine CW.condF rfl ?_
  refine CW.skip ?_
  refine CW.seq ?_
  refine CW.seq ?_
  refine CW.drawn [] (fun w1 w' => Ext w1 w') mixed (fun w7 ed8 hh9 => ?_)
  have u11 := Ext.up ed8 hm6
  have e12 := Stp.ext e5 ed8
  have hm13 := Up.mb u11
  have hcl10 := Stp.refl w7 (fun _ => False)
  refine DW.rF 0 rfl (by kernel_rfl) (fun _ _ _ h => h) (fun w' => Rn.move rfl) ?_
  refine DW.rF 2 rfl (by kernel_rfl) (fun _ _ _ h => h) (fun w' => Rn.move rfl) ?_
  refine DW.rF 3 rfl (by kernel_rfl) (fun _ _ _ h => h) (fun w' => Rn.move rfl) ?_
  refine DW.rF 4 rfl (by kernel_rfl) (fun _ _ _ h => h) (fun w' => Rn.len Try.underlying29 rfl) ?_
  refine DW.rF 5 rfl (by kernel_rfl) (fun _ _ _ h => h) (fun w' => Rn.imin rfl rfl) ?_
  obtain ⟨A14, c15, hRn16, hD17, hl18⟩ := SlD.cutH (h2.up (Up.trans u4 u11)) (i := min (l2.length : Int) 60) (by (first | omega | (show _ < 2; omega))) (by (first | omega | (show _ < 2; omega)))
  have hy19 : (l2.take (min (l2.length : Int) 60).toNat) = l2.take 60 := by exact take_min l2 60
  rw [hy19] at hD17 hl18
  simp only [hy19] at hRn16
  refine DW.rF 6 rfl (by kernel_rfl) (fun _ _ _ h => h) (fun w' => Rn.rn (hRn16 es29 rfl rfl)) ?_
  refine DW.rF 9 rfl (by kernel_rfl) (fun _ _ _ h => h) (fun w' => Rn.move rfl) ?_
  refine DW.only 1 (by kernel_rfl) rfl (fun _ => hcl10) ?_
  refine WL.call Try.func47 rfl rfl (.cons rfl (.nil)) (scalars_spec _ _ hm13 (h1.up (Up.trans u4 u11))) (fun _ w20 hr21 => ?_)
  obtain ⟨M22, hP23⟩ := hr21
  obtain ⟨A24, c25, rfl⟩ := Own.form hP23.own
  have e26 := Stp.ext e12 (NewR.ext hP23)
  have hm27 := Up.mb (NewR.up hP23)
  have hcl28 := Stp.ext hcl10 (NewR.ext hP23)
  have hs029 : Ms M M22 := fun k h => (NewR.ms hP23) k (hs00 k h)
  have fr30 := Ge.le (NewR.new hP23) (Stp.size e12)
  have hD31 := Own.freeze (NewR.own hP23) hm27
  have u32 := Up.freeze hm27 (ob (.slice A24 (sclP l).length c25))
  have hs033 : Ms M (less M22 (ob (.slice A24 (sclP l).length c25))) := Ms.less hs029 (Dj.symm (Dj.fresh (Ge.le (NewR.new hP23) (Stp.size (Up.stp (Up.trans u4 u11)))) (fun _ h => h) hm))
  have hm34 := Up.mb u32
  refine WL.nil ?_
  refine DW.only 7 (by kernel_rfl) rfl (fun _ => hcl28) ?_
  refine WL.bslice Try.underlying82 ti29 rfl (by decide) (by decide) (.cons rfl (.cons rfl .nil)) rfl (by simp [Value.cells]) (fun g35 w36 hg37 hb38 he39 => ?_)
  have u41 := Ext.up he39 hm34
  have e42 := Stp.ext e26 he39
  have hm43 := Up.mb u41
  have hcl44 := Stp.ext hcl28 he39
  have hD40 : SlD SliR 1 w36 (less M22 (ob (.slice A24 (sclP l).length c25))) (some ⟨g35, 0, none⟩) 2 ([sclP l, l2.take 60] : List (List Int)) := Bk.sl2 (R := SliR) (sz := 1) (css := [[.slice A24 ((sclP l).length) c25], [.slice A14 ((l2.take 60).length) c15]]) (ys := ([sclP l, l2.take 60] : List (List Int))) hb38 (.cons ⟨rfl, _, rfl, SlD.sl (hD31.up u41)⟩ (.cons ⟨rfl, _, rfl, SlD.sl (hD17.up (Up.trans (NewR.up hP23) (Up.trans u32 u41)))⟩ (.nil))) (MB.fresh hm34 hg37) (show 2 ≤ 9223372036854775807 by decide)
  refine WL.nil ?_
  refine DW.rF 8 rfl (by kernel_rfl) (fun _ _ _ h => h) (fun w' => Rn.len Try.underlying82 rfl) ?_
  refine DW.done (by kernel_rfl) (fun _ => hcl44) ?_
  refine CW.block ?_
  refine CW.loop (fun m σ wr0 => ∃ i : Nat, ∃ Mr45 : MS, m = 2 - i ∧ σ = [(22, .slice (some ⟨g35, 0, none⟩) 2 2), (23, .int .i64 2), (24, .int .i64 (i : Int))] ∧ (Up w36 (less M22 (ob (.slice A24 (sclP l).length c25))) wr0 Mr45) ∧ (Stp w wr0 NoM) ∧ (Ms (less M22 (ob (.slice A24 (sclP l).length c25))) Mr45) ∧ (Ms M Mr45) ∧ (i ≤ 2)) _ _ (.cons (t := 22) rfl (.cons (t := 23) rfl (.cons (t := 24) rfl (.nil _)))) ⟨0, (less M22 (ob (.slice A24 (sclP l).length c25))), rfl, rfl, Up.refl hm43, e42, fun _ h => h, hs033, by omega⟩ ?_
  rintro m _ wr0 ⟨i, Mr45, rfl, rfl, hU46, hE47, hsp49, hsb50, hi⟩
  have hm48 := Up.mb hU46
  refine CW.seq ?_
  refine CW.region ?_
  refine WL.lss rfl rfl ?_
  refine WL.nil ?_
  refine CW.seq ?_
  refine CW.condP rfl (fun hc51 => ?_) (fun hc51 => ?_)
  · have hil : i < ([sclP l, l2.take 60] : List (List Int)).length := by show i < 2; omega
    have hxl := hLS _ (List.getElem_mem hil)
    refine CW.skip ?_
    refine CW.seq ?_
    refine CW.block ?_
    refine CW.seq ?_
    refine CW.region ?_
    have hlt52 : i < ([sclP l, l2.take 60] : List (List Int)).length := by (first | omega | (show _ < 2; omega))
    obtain ⟨ad53, cs54, hA55, hs56, hat57, hR58⟩ := SlD.get (hD40.up hU46) (List.getElem?_eq_getElem hlt52)
    obtain ⟨_, hx62, ⟨A59, c60, rfl, hD61⟩⟩ := hR58
    rw [hx62] at hat57
    have hl63 := SlD.lim hD61
    refine WL.idx es82 rfl rfl hA55 (by omega) (by omega) ?_
    refine WL.load sc29 rfl (hat57.cell 0 _ rfl) ?_
    refine WL.assign rfl ?_
    refine WL.nil ?_
    refine CW.seq ?_
    refine CW.region ?_
    refine WL.call Try.func41 rfl rfl (.nil) (iencode_spec _ _ hm48) (fun _ w64 hr65 => ?_)
    obtain ⟨g66, rfl, M67, S68, hI69, hnw70, hu71, hms72, he73⟩ := hr65
    have hI74 : IEncR g66 w64 M67 S68 enc0 := hI69
    have e75 := Stp.ext hE47 he73
    have hm76 := Up.mb hu71
    have hs077 : Ms M M67 := fun k h => hms72 k (hsb50 k h)
    have hs078 : Ms (less M22 (ob (.slice A24 (sclP l).length c25))) M67 := fun k h => hms72 k (hsp49 k h)
    have fr79 := Ge.le hnw70 (Stp.size hE47)
    refine WL.assign rfl ?_
    refine WL.nil ?_
    refine CW.seq ?_
    refine CW.seq ?_
    refine CW.region ?_
    refine WL.move rfl ?_
    refine WL.rn (Rn.pnil Try.underlying72 rfl) ?_
    refine WL.nil ?_
    refine CW.condF rfl ?_
    refine CW.skip ?_
    refine CW.seq ?_
    refine CW.region ?_
    refine WL.assign rfl ?_
    refine WL.nil ?_
    refine CW.seq ?_
    refine CW.seq ?_
    refine CW.region ?_
    refine WL.move rfl ?_
    refine WL.len Try.underlying29 rfl ?_
    refine WL.move rfl ?_
    refine WL.nil ?_
    refine CW.block ?_
    have hO80 : Own TokR 4 58 w64 M67 0 (.slice none 0 0) [] := Own.nil
    have dj81 : Dj (ob (.slice none 0 0)) S68 := Dj.nil _
    refine CW.loop (fun m σ wr1 => ∃ j : Nat, ∃ s1 : IEnc, ∃ T1 : List PTok, ∃ Sg : MS, ∃ Mr82 : MS, ∃ A90 : Option Addr, ∃ n91 : Nat, ∃ c92 : Nat, m = [sclP l, l2.take 60][i].length - j ∧ σ = [(6, .slice A59 (([sclP l, l2.take 60] : List (List Int))[i].length) c60), (7, .pointer (some ⟨g66, 0, none⟩)), (8, .slice A90 n91 c92), (22, .slice (some ⟨g35, 0, none⟩) 2 2), (23, .int .i64 2), (24, .int .i64 (i : Int)), (31, .slice A59 (([sclP l, l2.take 60] : List (List Int))[i].length) c60), (32, .int .i64 (([sclP l, l2.take 60] : List (List Int))[i].length : Int)), (33, .int .i64 (j : Int))] ∧ (Up w64 M67 wr1 Mr82) ∧ (Stp w wr1 NoM) ∧ (Ms M67 Mr82) ∧ (Ms M Mr82) ∧ (IEncR g66 wr1 Mr82 Sg s1) ∧ (Own TokR 4 58 wr1 Mr82 0 (.slice A90 n91 c92) (T1)) ∧ (Ms (Sg) Mr82) ∧ (∀ q_, (Sg) q_ → w.heap.size ≤ q_) ∧ (∀ q_, (Sg) q_ → w36.heap.size ≤ q_) ∧ (Dj (Sg) (ob (.slice A90 n91 c92))) ∧ (Ms (ob (.slice A90 n91 c92)) Mr82) ∧ (∀ q_, (ob (.slice A90 n91 c92)) q_ → w.heap.size ≤ q_) ∧ (∀ q_, (ob (.slice A90 n91 c92)) q_ → w36.heap.size ≤ q_) ∧ (j ≤ [sclP l, l2.take 60][i].length) ∧ (runP iencPut ([sclP l, l2.take 60][i].take j) enc0 = (T1, s1))) _ _ (.cons (t := 6) rfl (.cons (t := 7) rfl (.cons (t := 8) rfl (.cons (t := 22) rfl (.cons (t := 23) rfl (.cons (t := 24) rfl (.cons (t := 31) rfl (.cons (t := 32) rfl (.cons (t := 33) rfl (.nil _)))))))))) ⟨0, enc0, [], S68, M67, none, 0, 0, rfl, rfl, Up.refl hm76, e75, fun _ h => h, hs077, hI74, hO80, (IEncR.ms hI74), fr79, (Ge.le hnw70 (Stp.size (Up.stp hU46))), (Dj.symm dj81), (Ms.nil M67), (Fr.nil w.heap.size), (Fr.nil w36.heap.size), by omega, rfl⟩ ?_
    rintro m _ wr1 ⟨j, s1, T1, Sg, Mr82, A90, n91, c92, rfl, rfl, hU83, hE84, hsp86, hsb87, h88, h89, mem93, wr94, ge95, dj96, mem97, wr98, ge99, hj, hr1⟩
    have hm85 := Up.mb hU83
    have hs0100 : Ms (less M22 (ob (.slice A24 (sclP l).length c25))) Mr82 := fun k h => hsp86 k (hs078 k h)
    obtain rfl := Own.n h89
    have hlen101 := Own.len h89
    have hf1 := ienc_facts hr1
    have htl : ([sclP l, l2.take 60][i].take j).length = j := by rw [List.length_take]; omega
    refine CW.seq ?_
    refine CW.region ?_
    refine WL.lss rfl rfl ?_
    refine WL.nil ?_
    refine CW.seq ?_
    refine CW.condP rfl (fun hc102 => ?_) (fun hc102 => ?_)
    · have hjl : j < [sclP l, l2.take 60][i].length := by omega
      have hE := ienc_put_facts hr1 [sclP l, l2.take 60][i][j] (by omega)
      refine CW.skip ?_
      refine CW.seq ?_
      refine CW.block ?_
      refine CW.seq ?_
      refine CW.region ?_
      have hlt103 : j < (([sclP l, l2.take 60] : List (List Int))[i]).length := by (first | omega | (show _ < 2; omega))
      obtain ⟨ad104, cs105, hA106, hs107, hat108, hR109⟩ := SlD.get (hD61.up (Up.trans hu71 hU83)) (List.getElem?_eq_getElem hlt103)
      rw [show _ = _ from hR109.1] at hat108
      have hhR109 := hR109.2; simp only [I64] at hhR109
      refine WL.idx es29 rfl rfl hA106 (by omega) (by omega) ?_
      refine WL.load sc3 rfl (hat108.cell 0 _ rfl) ?_
      refine WL.assign rfl ?_
      refine WL.nil ?_
      refine CW.region ?_
      refine WL.move rfl ?_
      refine WL.move rfl ?_
      refine WL.move rfl ?_
      refine WL.call Try.func43 rfl rfl (.cons rfl (.cons rfl (.nil))) (iencPut_spec _ _ hm85 h88 (ienc_ok hr1 (by omega)) ((([sclP l, l2.take 60] : List (List Int))[i])[j]) (by simp only [I64]; omega)) (fun _ w110 hr111 => ?_)
      obtain ⟨M112, S113, hP114, hM115⟩ := hr111
      have hP118 : PutR wr1 Mr82 Sg w110 M112 S113 _ ((iencPut s1 ((([sclP l, l2.take 60] : List (List Int))[i])[j])).1) := hP114
      obtain ⟨A116, c117, rfl⟩ := Own.form hP118.own
      have hM119 : IEncR g66 w110 M112 S113 (iencPut s1 ((([sclP l, l2.take 60] : List (List Int))[i])[j])).2 := hM115
      have e120 := Stp.wr hE84 (PutR.stp hP118) (Wr.ofFr NoM wr94)
      have hm121 := Up.mb (PutR.up hP118)
      have hs0122 : Ms M M112 := fun k h => (PutR.ms hP118) k (hsb87 k h)
      have hs0123 : Ms (less M22 (ob (.slice A24 (sclP l).length c25))) M112 := fun k h => (PutR.ms hP118) k (hs0100 k h)
      have hs0124 : Ms M67 M112 := fun k h => (PutR.ms hP118) k (hsp86 k h)
      have dj125 := Dj.grow dj96 (PutR.wr hP118) mem97 hm85
      have fr127 := Ge.grow wr94 (PutR.wr hP118) (Stp.size hE84)
      have ge128 := Ge.grow ge95 (PutR.wr hP118) (Stp.size (Up.stp (Up.trans hU46 (Up.trans hu71 hU83))))
      have dj129 := Dj.fresh (T := (ob (.slice A90 T1.length c92))) (PutR.new hP118) mem97 hm85
      have fr130 := Ge.le (PutR.new hP118) (Stp.size hE84)
      have mem140 : Ms (ob (.slice A90 T1.length c92)) M112 := (fun k h => (PutR.ms hP118) k (mem97 k h))
      have h141 := Own.step h89 (PutR.stp hP118) (Dj.symm dj96) (PutR.up hP118) mem140
      refine WL.appendR Try.underlying55 ti58 rfl (by decide) rfl rfl h141 (Own.atl (PutR.own hP118)) hm121 (by decide) (by first | omega | (simp; omega)) (fun A131 c132 w133 M134 hO135 hs136 u137 hsub138 hnew139 => ?_)
      have e142 := Stp.wr e120 hs136 (Wr.ofFr NoM wr98)
      have hm143 := Up.mb u137
      have hs0144 : Ms M M134 := fun k h => hsub138 k (hs0122 k h)
      have hs0145 : Ms (less M22 (ob (.slice A24 (sclP l).length c25))) M134 := fun k h => hsub138 k (hs0123 k h)
      have hs0146 : Ms M67 M134 := fun k h => hsub138 k (hs0124 k h)
      have dj147 := Dj.grow (Dj.symm dj125) hnew139 (IEncR.ms hM119) hm121
      have dj148 := Dj.grow (Dj.symm dj129) hnew139 (Own.ms (PutR.own hP118)) hm121
      have fr150 := Ge.grow wr98 hnew139 (Stp.size e120)
      have ge151 := Ge.grow ge99 hnew139 (Stp.size (Up.stp (Up.trans hU46 (Up.trans hu71 (Up.trans hU83 (PutR.up hP118))))))
      refine WL.assign rfl ?_
      refine WL.nil ?_
      refine CW.region ?_
      refine WL.add rfl rfl (by omega) ?_
      refine WL.move rfl ?_
      refine WL.nil ?_
      have mem152 : Ms S113 M134 := (fun k h => hsub138 k ((IEncR.ms hM119) k h))
      have h153 := IEncR.step hM119 hs136 dj125 u137 mem152
      refine Loop.again _ _ ?_ ?_ ⟨j + 1, (iencPut s1 [sclP l, l2.take 60][i][j]).2, T1 ++ (iencPut s1 [sclP l, l2.take 60][i][j]).1, S113, M134, A131, (T1 ++ ((iencPut s1 ((([sclP l, l2.take 60] : List (List Int))[i])[j])).1)).length, c132, rfl, rfl, (Up.trans hU83 (Up.trans (PutR.up hP118) u137)), e142, hs0146, hs0144, h153, hO135, mem152, fr127, ge128, (Dj.symm dj147), (Own.ms hO135), fr150, ge151, by omega, run_take_succ _ hjl hr1⟩
      · omega
      · exact .cons (t := 6) rfl (.cons (t := 7) rfl (.cons (t := 8) rfl (.cons (t := 22) rfl (.cons (t := 23) rfl (.cons (t := 24) rfl (.cons (t := 31) rfl (.cons (t := 32) rfl (.cons (t := 33) rfl (.nil _)))))))))
    · have hje : j = [sclP l, l2.take 60][i].length := by omega
      have hrE : runP iencPut [sclP l, l2.take 60][i] enc0 = (T1, s1) := by rw [← hr1, hje, List.take_length]
      have hF := ienc_fin_facts hrE (by omega)
      have hall : allP iencPut iencFin [sclP l, l2.take 60][i] enc0 = (T1 ++ (iencFin s1).1, (iencFin s1).2) := by simp only [allP, hrE]
      have hai := all_ienc [sclP l, l2.take 60][i]
      rw [hall] at hai
      have hsame : T1 ++ (iencFin s1).1 = (lawEnc [sclP l, l2.take 60][i]).ou := hai.1
      have hscr : (iencFin s1).2.sc = (lawEnc [sclP l, l2.take 60][i]).sc := hai.2.1
      have hheld : (((iencFin s1).2.e.wait.length : Nat) : Int) = 0 := by rw [hai.2.2]; rfl
      refine CW.exit ?_
      refine CW.seq ?_
      refine CW.region ?_
      refine WL.move rfl ?_
      refine WL.move rfl ?_
      refine WL.call Try.func44 rfl rfl (.cons rfl (.nil)) (iencEnd_spec _ _ hm85 h88 (n := 0) (ienc_ok hrE (by omega)).1) (fun _ w154 hr155 => ?_)
      obtain ⟨M156, S157, hP158, hM159⟩ := hr155
      have hP162 : PutR wr1 Mr82 Sg w154 M156 S157 _ ((iencFin s1).1) := hP158
      obtain ⟨A160, c161, rfl⟩ := Own.form hP162.own
      have hM163 : IEncR g66 w154 M156 S157 (iencFin s1).2 := hM159
      have e164 := Stp.wr hE84 (PutR.stp hP162) (Wr.ofFr NoM wr94)
      have hm165 := Up.mb (PutR.up hP162)
      have hs0166 : Ms M M156 := fun k h => (PutR.ms hP162) k (hsb87 k h)
      have hs0167 : Ms (less M22 (ob (.slice A24 (sclP l).length c25))) M156 := fun k h => (PutR.ms hP162) k (hs0100 k h)
      have dj168 := Dj.grow dj96 (PutR.wr hP162) mem97 hm85
      have fr170 := Ge.grow wr94 (PutR.wr hP162) (Stp.size hE84)
      have ge171 := Ge.grow ge95 (PutR.wr hP162) (Stp.size (Up.stp (Up.trans hU46 (Up.trans hu71 hU83))))
      have dj172 := Dj.fresh (T := (ob (.slice A90 T1.length c92))) (PutR.new hP162) mem97 hm85
      have fr173 := Ge.le (PutR.new hP162) (Stp.size hE84)
      have mem183 : Ms (ob (.slice A90 T1.length c92)) M156 := (fun k h => (PutR.ms hP162) k (mem97 k h))
      have h184 := Own.step h89 (PutR.stp hP162) (Dj.symm dj96) (PutR.up hP162) mem183
      refine WL.appendR Try.underlying55 ti58 rfl (by decide) rfl rfl h184 (Own.atl (PutR.own hP162)) hm165 (by decide) (by first | omega | (simp; omega)) (fun A174 c175 w176 M177 hO178 hs179 u180 hsub181 hnew182 => ?_)
      have e185 := Stp.wr e164 hs179 (Wr.ofFr NoM wr98)
      have hm186 := Up.mb u180
      have hs0187 : Ms M M177 := fun k h => hsub181 k (hs0166 k h)
      have hs0188 : Ms (less M22 (ob (.slice A24 (sclP l).length c25))) M177 := fun k h => hsub181 k (hs0167 k h)
      have dj189 := Dj.grow (Dj.symm dj168) hnew182 (IEncR.ms hM163) hm165
      have dj190 := Dj.grow (Dj.symm dj172) hnew182 (Own.ms (PutR.own hP162)) hm165
      have fr192 := Ge.grow wr98 hnew182 (Stp.size e164)
      have ge193 := Ge.grow ge99 hnew182 (Stp.size (Up.stp (Up.trans hU46 (Up.trans hu71 (Up.trans hU83 (PutR.up hP162))))))
      refine WL.assign rfl ?_
      refine WL.nil ?_
      refine CW.seq ?_
      refine CW.region ?_
      refine WL.move rfl ?_
      refine WL.call Try.func52 rfl rfl (.cons rfl (.nil)) (lawEnc_spec _ _ hm186 (hD61.up (Up.trans hu71 (Up.trans hU83 (Up.trans (PutR.up hP162) u180)))) (by omega)) (fun _ w194 hr195 => ?_)
      obtain ⟨M196, v197, rfl, hP198⟩ := hr195
      obtain ⟨A199, c200, rfl⟩ := Own.form hP198.own
      have e201 := Stp.ext e185 (NewR.ext hP198)
      have hm202 := Up.mb (NewR.up hP198)
      have hs0203 : Ms M M196 := fun k h => (NewR.ms hP198) k (hs0187 k h)
      have hs0204 : Ms (less M22 (ob (.slice A24 (sclP l).length c25))) M196 := fun k h => (NewR.ms hP198) k (hs0188 k h)
      have mem206 : Ms S157 M177 := (fun k h => hsub181 k ((IEncR.ms hM163) k h))
      have dj205 := Dj.fresh (T := S157) (NewR.new hP198) mem206 hm186
      have dj207 := Dj.fresh (T := (ob (.slice A174 (T1 ++ ((iencFin s1).1)).length c175))) (NewR.new hP198) (Own.ms hO178) hm186
      have mem209 : Ms (ob (.slice A160 ((iencFin s1).1).length c161)) M177 := (fun k h => hsub181 k ((Own.ms (PutR.own hP162)) k h))
      have dj208 := Dj.fresh (T := (ob (.slice A160 ((iencFin s1).1).length c161))) (NewR.new hP198) mem209 hm186
      have fr210 := Ge.le (NewR.new hP198) (Stp.size e185)
      refine WL.move rfl ?_
      refine WL.extract rfl rfl ?_
      refine WL.extract rfl rfl ?_
      refine WL.assign rfl ?_
      refine WL.assign rfl ?_
      refine WL.nil ?_
      refine CW.seq ?_
      refine CW.region ?_
      refine WL.move rfl ?_
      refine WL.move rfl ?_
      have h211 := Own.ext hO178 (NewR.ext hP198) (NewR.up hP198) (NewR.ms hP198)
      refine WL.call Try.func33 rfl rfl (.cons rfl (.cons rfl (.nil))) (Same_spec _ _ (MB.none _) (Own.read00 h211 hm202) (Own.read00 (NewR.own hP198) hm202)) (fun _ w212 hr213 => ?_)
      obtain ⟨rfl, he214⟩ := hr213
      have u215 := Ext.up he214 hm202
      have e216 := Stp.ext e201 he214
      have hm217 := Up.mb u215
      refine WL.not_ rfl ?_
      refine WL.move rfl ?_
      have hev218 : (!decide (T1 ++ ((iencFin s1).1) = (lawEnc [sclP l, l2.take 60][i]).ou)) = false := by rw [decide_eq_true (show T1 ++ ((iencFin s1).1) = (lawEnc [sclP l, l2.take 60][i]).ou from hsame)]; rfl
      refine WL.gtake rfl rfl hev218 ?_
      refine WL.move rfl ?_
      refine WL.gtake rfl rfl hev218 ?_
      have h219 := IEncR.step hM163 hs179 dj168 u180 mem206
      have mem220 : Ms S157 M196 := (fun k h => (NewR.ms hP198) k (mem206 k h))
      have h221 := IEncR.step h219 (NewR.ext hP198) (fun _ _ h => h) (NewR.up hP198) mem220
      have h222 := IEncR.step h221 he214 (fun _ _ h => h) u215 mem220
      refine WL.call Try.func51 rfl rfl (.cons rfl (.nil)) (iencScript_spec _ _ hm217 h222) (fun _ w223 hr224 => ?_)
      obtain ⟨rfl, he225⟩ := hr224
      have u226 := Ext.up he225 hm217
      have e227 := Stp.ext e216 he225
      have hm228 := Up.mb u226
      refine WL.gtake rfl rfl hev218 ?_
      refine WL.move rfl ?_
      refine WL.gtake rfl rfl hev218 ?_
      refine WL.neq rfl rfl ?_
      refine WL.pickF (congrArg (fun b => some (Value.bool b)) hev218) rfl ?_
      refine WL.move rfl ?_
      have hev229 : ¬ ((iencFin s1).2.sc ≠ (lawEnc [sclP l, l2.take 60][i]).sc) := fun h_ => h_ hscr
      refine WL.gtake rfl rfl (decide_eq_false hev229) ?_
      refine WL.move rfl ?_
      refine WL.gtake rfl rfl (decide_eq_false hev229) ?_
      have h230 := IEncR.step h222 he225 (fun _ _ h => h) u226 mem220
      refine WL.call Try.func53 rfl rfl (.cons rfl (.nil)) (iencHeld_spec _ _ hm228 h230) (fun _ w231 hr232 => ?_)
      obtain ⟨rfl, he233⟩ := hr232
      have u234 := Ext.up he233 hm228
      have e235 := Stp.ext e227 he233
      have hm236 := Up.mb u234
      refine WL.gtake rfl rfl (decide_eq_false hev229) ?_
      refine WL.neq rfl rfl ?_
      refine WL.pickF (congrArg (fun b => some (Value.bool b)) (decide_eq_false hev229)) rfl ?_
      refine WL.nil ?_
      have hev237 : ¬ (((iencFin s1).2.e.wait.length : Int) ≠ 0) := fun h_ => h_ hheld
      refine CW.condP rfl (fun hn => absurd hn hev237) (fun _ => ?_)
      refine CW.skip ?_
      refine CW.region ?_
      refine WL.add rfl rfl (by omega) ?_
      refine WL.move rfl ?_
      refine WL.nil ?_
      refine Loop.again _ _ ?_ ?_ ⟨i + 1, M196, rfl, rfl, (Up.trans hU46 (Up.trans hu71 (Up.trans hU83 (Up.trans (PutR.up hP162) (Up.trans u180 (Up.trans (NewR.up hP198) (Up.trans u215 (Up.trans u226 u234)))))))), e235, hs0204, hs0203, by omega⟩
      · omega
      · exact .cons (t := 22) rfl (.cons (t := 23) rfl (.cons (t := 24) rfl (.nil _)))
  · refine CW.exit ?_
    refine CW.seq ?_
    refine CW.region ?_
    refine WL.assign rfl ?_
    refine WL.nil ?_
    refine CW.ret ?_
    refine Ret.one rfl rfl ?_
    exact ⟨rfl, hE47⟩
end Go.Proofs.Ytgbajkdomcmblaa
