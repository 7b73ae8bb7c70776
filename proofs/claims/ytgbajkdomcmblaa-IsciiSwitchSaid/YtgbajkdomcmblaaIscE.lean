/- The laws' Decode of ISCII: a walk. -/
import Derived.Test.YtgbajkdomcmblaaIscC
namespace Go.Proofs.Ytgbajkdomcmblaa
open Go Go.RowKit Vc
set_option linter.unusedVariables false
set_option linter.unusedSimpArgs false
private theorem mixed : Try.prog.follows .mixedOrders = true := by kernel_rfl
private theorem fo58_2 : fieldOff Try.prog 58 2 = some 2 := by kernel_rfl
private theorem es29 : elemSize Try.prog 29 = some 1 := by kernel_rfl
private theorem es55 : elemSize Try.prog 55 = some 4 := by kernel_rfl
private theorem sc3 : scalar Try.prog 3 = true := by kernel_rfl
private theorem sc29 : scalar Try.prog 29 = true := by kernel_rfl
private theorem ag58 : aggSize Try.prog 58 = some 4 := by kernel_rfl
private theorem ti3 : tinfo Try.prog 3 = some (some (.int .i64 0), 1, 8) := by kernel_rfl
private theorem ti29 : tinfo Try.prog 29 = some (some (.slice none 0 0), 1, 24) := by kernel_rfl
private theorem ti58 : tinfo Try.prog 58 = some (some (.agg #[.int .i64 0, .int .i64 0, .slice none 0 0, .int .i64 0]), 4, 48) := by kernel_rfl
theorem batch_uok (us : List Int) : ∀ x ∈ batchP indR us 0, ∀ u ∈ x.out, uOk u := by
  have h := take_uok indR_good true _ us 0 (Nat.le_refl _)
  rw [take_end indR_good.right _ us 0 (Nat.le_refl _)] at h
  exact h

theorem lawDecode_spec (w : World) (M : MS) (hm : MB w M) {Ap1 : Option Addr} {cp1 : Nat} {us : List Int} (h1 : SlD IntR 1 w M Ap1 cp1 us) (hx : us.length ≤ 1000) :
    Fc Try.prog 55 #[.slice Ap1 us.length cp1] w fun v w' => ∃ M' v1, v = .tuple #[v1, .int .i64 (meanT 0 (batchP indR us 0)).2] ∧ NewR TokR 4 58 w M w' M' v1 (meanT 0 (batchP indR us 0)).1 := by
  have e0 := Stp.refl w (NoM : MS)
  have hs00 : Ms M M := fun _ h => h
  have hlim := h1.lim
  obtain ⟨hbl, hbo⟩ := batch_facts indR_good us 0
  refine Fc.enter (n := 56) [(0, .slice Ap1 us.length cp1)] Try.func55 rfl rfl (Nat.le_of_ble_eq_true rfl) (.cons rfl (.nil _)) ?_
  refine CW.seq ?_
  refine CW.region ?_
  refine WL.assign rfl ?_
  refine WL.assign rfl ?_
  refine WL.nil ?_
  refine CW.seq ?_
  refine CW.region ?_
  refine WL.call Try.func83 rfl rfl (.nil) (lawRules_spec _ _ hm) (fun _ w1 hr2 => ?_)
  obtain ⟨M3, hP4⟩ := hr2
  obtain ⟨A5, c6, rfl⟩ := Own.form hP4.own
  have e7 := Stp.ext e0 (NewR.ext hP4)
  have hm8 := Up.mb (NewR.up hP4)
  have hs09 : Ms M M3 := fun k h => (NewR.ms hP4) k (hs00 k h)
  have fr10 := Ge.le (NewR.new hP4) (Stp.size e0)
  have hD11 := Own.freeze (NewR.own hP4) hm8
  have u12 := Up.freeze hm8 (ob (.slice A5 indR.length c6))
  have hs013 : Ms M (less M3 (ob (.slice A5 indR.length c6))) := Ms.less hs09 (Dj.symm (Dj.fresh (NewR.new hP4) (fun _ h => h) hm))
  have hm14 := Up.mb u12
  refine WL.move rfl ?_
  refine WL.call Try.func35 rfl rfl (.cons rfl (.cons rfl (.nil))) (lawAll_spec _ _ hm14 hD11 (h1.up (Up.trans (NewR.up hP4) u12)) indR_good (by omega)) (fun _ w15 hr16 => ?_)
  obtain ⟨M17, hP18⟩ := hr16
  obtain ⟨A19, c20, rfl⟩ := Own.form hP18.own
  have e21 := Stp.ext e7 (NewR.ext hP18)
  have hm22 := Up.mb (NewR.up hP18)
  have hs023 : Ms M M17 := fun k h => (NewR.ms hP18) k (hs013 k h)
  have fr24 := Ge.le (NewR.new hP18) (Stp.size e7)
  refine WL.assign rfl ?_
  refine WL.nil ?_
  refine CW.seq ?_
  refine CW.region ?_
  refine WL.assign rfl ?_
  refine WL.nil ?_
  refine CW.seq ?_
  refine CW.seq ?_
  refine CW.region ?_
  refine WL.move rfl ?_
  refine WL.len Try.underlying55 rfl ?_
  refine WL.move rfl ?_
  refine WL.nil ?_
  refine CW.block ?_
  refine CW.loop (fun m σ wr0 => ∃ k : Nat, ∃ pre : List PTok, ∃ sc2 : Int, ∃ Mr25 : MS, m = (batchP indR us 0).length - k ∧ σ = [(4, .slice A19 ((batchP indR us 0).length) c20), (5, .int .i64 sc2), (14, .slice A19 ((batchP indR us 0).length) c20), (15, .int .i64 ((batchP indR us 0).length : Int)), (16, .int .i64 (k : Int))] ∧ (Up w15 M17 wr0 Mr25) ∧ (Stp w wr0 NoM) ∧ (Ms M17 Mr25) ∧ (Ms M Mr25) ∧ (Own TokR 4 58 wr0 Mr25 0 (.slice A19 ((batchP indR us 0).length) c20) (pre ++ (batchP indR us 0).drop k)) ∧ (k ≤ (batchP indR us 0).length) ∧ (meanT 0 ((batchP indR us 0).take k) = (pre, sc2)) ∧ (0 ≤ sc2) ∧ (sc2 ≤ 10000)) _ _ (.cons (t := 4) rfl (.cons (t := 5) rfl (.cons (t := 14) rfl (.cons (t := 15) rfl (.cons (t := 16) rfl (.nil _)))))) ⟨0, [], 0, M17, rfl, rfl, Up.refl hm22, e21, fun _ h => h, hs023, (NewR.own hP18), by omega, rfl, by omega, by omega⟩ ?_
  rintro m _ wr0 ⟨k, pre, sc2, Mr25, rfl, rfl, hU26, hE27, hsp29, hsb30, h31, hk, hj, hs20, hs21⟩
  have hm28 := Up.mb hU26
  have mem32 : Ms (ob (.slice A19 (batchP indR us 0).length c20)) Mr25 := (fun k h => hsp29 k ((Own.ms (NewR.own hP18)) k h))
  have hlen33 := Own.len h31
  have hpl : pre.length = k := by have := meanT_len ((batchP indR us 0).take k) 0; rw [hj] at this; simp at this; omega
  refine CW.seq ?_
  refine CW.region ?_
  refine WL.lss rfl rfl ?_
  refine WL.nil ?_
  refine CW.seq ?_
  refine CW.condP rfl (fun hc34 => ?_) (fun hc34 => ?_)
  · have hkl : k < (batchP indR us 0).length := by omega
    have hxu := batch_uok us (batchP indR us 0)[k] (List.getElem_mem hkl)
    have hxl := hbo _ (List.getElem_mem hkl)
    refine CW.skip ?_
    refine CW.seq ?_
    refine CW.block ?_
    refine CW.seq ?_
    refine CW.region ?_
    refine WL.move rfl ?_
    have hlt35 : k < (pre ++ (batchP indR us 0).drop k).length := by first | omega | (simp only [List.length_append, List.length_set, List.length_drop]; omega)
    obtain ⟨ad36, cs37, hA38, hs39, hat40, hR41⟩ := Own.get h31 hlt35
    rw [show (pre ++ (batchP indR us 0).drop k)[k] = (batchP indR us 0)[k] from get_mid hpl hkl _] at hR41
    obtain ⟨_, hx44, ⟨A42, c43, rfl, hD45⟩, hi46, hi47, hi48⟩ := hR41
    rw [hx44] at hat40
    have hl49 := SlD.lim hD45
    simp only [I64] at hi46 hi47 hi48
    refine WL.idx es55 rfl rfl hA38 (by omega) (by omega) ?_
    refine WL.loadAgg (M := fun _ => False) (cs := [.int .i64 ((batchP indR us 0)[k].at_), .int .i64 ((batchP indR us 0)[k].len), .slice A42 ((batchP indR us 0)[k].out.length) c43, .int .i64 ((batchP indR us 0)[k].err)]) ag58 rfl hat40 ?_
    refine WL.alloc (cs := [.int .i64 0, .int .i64 0, .slice none 0 0, .int .i64 0]) ti58 rfl (fun g50 w51 hg52 hb53 he54 => ?_)
    obtain ⟨M55, u56, mem57, hsub58, hinv59⟩ := Ext.addVar he54 hm28 hg52 hb53
    have ge60 : ∀ q_, vb g50 q_ → wr0.heap.size ≤ q_ := fun q_ hq_ => by rw [hq_]; exact hg52
    have mem61 := Ms.one mem57
    have e62 := Stp.ext hE27 he54
    have hm63 := Up.mb u56
    have hs064 : Ms M M55 := fun k h => hsub58 k (hsb30 k h)
    have hs065 : Ms M17 M55 := fun k h => hsub58 k (hsp29 k h)
    have dj66 := Dj.fresh (T := (ob (.slice A19 (batchP indR us 0).length c20))) ge60 mem32 hm28
    have fr67 := Ge.le ge60 (Stp.size hE27)
    refine WL.assign rfl ?_
    refine WL.storeAll (vs := [.int .i64 ((batchP indR us 0)[k].at_), .int .i64 ((batchP indR us 0)[k].len), .slice A42 ((batchP indR us 0)[k].out.length) c43, .int .i64 ((batchP indR us 0)[k].err)]) (by rw [ti58]; rfl) rfl rfl (by simp [Value.oneCell']) hb53 rfl (fun w68 hb69 hs70 => ?_)
    have u71 := Stp.upM hs70 hm63 mem61
    have e72 := Stp.wr e62 hs70 (Wr.ofFr NoM fr67)
    have hm73 := Up.mb u71
    refine WL.nil ?_
    refine CW.seq ?_
    refine CW.region ?_
    refine WL.assign rfl ?_
    refine WL.nil ?_
    refine CW.seq ?_
    refine CW.seq ?_
    refine CW.region ?_
    refine WL.fieldAddr fo58_2 rfl ?_
    refine WL.load sc29 rfl ((Bk.at_ (M := fun _ => False) hb69 (fun h => h)).cell 2 _ rfl) ?_
    refine WL.len Try.underlying29 rfl ?_
    refine WL.move rfl ?_
    refine WL.nil ?_
    refine CW.block ?_
    have hO74 : Own IntR 1 3 w68 M55 0 (.slice none 0 0) [] := Own.nil
    have dj75 : Dj (ob (.slice none 0 0)) (ob (.slice A19 (batchP indR us 0).length c20)) := Dj.nil _
    have dj76 : Dj (ob (.slice none 0 0)) (vb g50) := Dj.nil _
    have h84 := Own.ext h31 he54 u56 hsub58
    have mem85 : Ms (ob (.slice A19 (batchP indR us 0).length c20)) M55 := (fun k h => hsub58 k (mem32 k h))
    have h86 := Own.step h84 hs70 (Dj.symm dj66) u71 mem85
    refine CW.loop (fun m σ wr1 => ∃ j : Nat, ∃ o : List Int, ∃ scz : Int, ∃ Mr77 : MS, ∃ A89 : Option Addr, ∃ n90 : Nat, ∃ c91 : Nat, m = (batchP indR us 0)[k].out.length - j ∧ σ = [(4, .slice A19 ((batchP indR us 0).length) c20), (5, .int .i64 scz), (6, .int .i64 (k : Int)), (8, .slice A89 n90 c91), (14, .slice A19 ((batchP indR us 0).length) c20), (15, .int .i64 ((batchP indR us 0).length : Int)), (16, .int .i64 (k : Int)), (22, .slice A42 ((batchP indR us 0)[k].out.length) c43), (23, .int .i64 ((batchP indR us 0)[k].out.length : Int)), (24, .int .i64 (j : Int))] ∧ (Up w68 M55 wr1 Mr77) ∧ (Stp w wr1 NoM) ∧ (Ms M55 Mr77) ∧ (Ms M Mr77) ∧ (Own TokR 4 58 wr1 Mr77 0 (.slice A19 ((batchP indR us 0).length) c20) (pre ++ (batchP indR us 0).drop k)) ∧ (Bk wr1 g50 58 [.int .i64 ((batchP indR us 0)[k].at_), .int .i64 ((batchP indR us 0)[k].len), .slice A42 ((batchP indR us 0)[k].out.length) c43, .int .i64 ((batchP indR us 0)[k].err)]) ∧ (Own IntR 1 3 wr1 Mr77 0 (.slice A89 n90 c91) (o)) ∧ (Ms (ob (.slice A89 n90 c91)) Mr77) ∧ (∀ q_, (ob (.slice A89 n90 c91)) q_ → w.heap.size ≤ q_) ∧ (∀ q_, (ob (.slice A89 n90 c91)) q_ → w15.heap.size ≤ q_) ∧ (Dj (ob (.slice A89 n90 c91)) (ob (.slice A19 (batchP indR us 0).length c20))) ∧ (Dj (ob (.slice A89 n90 c91)) (vb g50)) ∧ (j ≤ (batchP indR us 0)[k].out.length) ∧ (meanUs sc2 ((batchP indR us 0)[k].out.take j) = (o, scz)) ∧ (0 ≤ scz) ∧ (scz ≤ 10000) ∧ (o.length ≤ j)) _ _ (.cons (t := 4) rfl (.cons (t := 5) rfl (.cons (t := 6) rfl (.cons (t := 8) rfl (.cons (t := 14) rfl (.cons (t := 15) rfl (.cons (t := 16) rfl (.cons (t := 22) rfl (.cons (t := 23) rfl (.cons (t := 24) rfl (.nil _))))))))))) ⟨0, [], sc2, M55, none, 0, 0, rfl, rfl, Up.refl hm73, e72, fun _ h => h, hs064, h86, hb69, hO74, (Ms.nil M55), (Fr.nil w.heap.size), (Fr.nil w15.heap.size), dj75, dj76, by omega, rfl, by omega, by omega, by simp⟩ ?_
    rintro m _ wr1 ⟨j, o, scz, Mr77, A89, n90, c91, rfl, rfl, hU78, hE79, hsp81, hsb82, h83, h87, h88, mem92, wr93, ge94, dj95, dj96, hj1, hmu, hs30, hs31, hol⟩
    have hm80 := Up.mb hU78
    have hs097 : Ms M17 Mr77 := fun k h => hsp81 k (hs065 k h)
    have mem98 : Ms (ob (.slice A19 (batchP indR us 0).length c20)) Mr77 := (fun k h => hsp81 k (mem85 k h))
    have hlen99 := Own.len h83
    have mem100 : Ms (vb g50) Mr77 := (fun k h => hsp81 k (mem61 k h))
    obtain rfl := Own.n h88
    have hlen101 := Own.len h88
    refine CW.seq ?_
    refine CW.region ?_
    refine WL.lss rfl rfl ?_
    refine WL.nil ?_
    refine CW.seq ?_
    refine CW.condP rfl (fun hc102 => ?_) (fun hc102 => ?_)
    · have hjl : j < (batchP indR us 0)[k].out.length := by omega
      have huu := hxu _ (List.getElem_mem hjl)
      have huu2 := huu
      simp only [uOk] at huu2
      refine CW.skip ?_
      refine CW.seq ?_
      refine CW.block ?_
      refine CW.seq ?_
      refine CW.region ?_
      have hlt103 : j < ((batchP indR us 0)[k].out).length := by first | omega | (simp only [List.length_append, List.length_set, List.length_drop]; omega)
      obtain ⟨ad104, cs105, hA106, hs107, hat108, hR109⟩ := SlD.get (hD45.up (Up.trans u56 (Up.trans u71 hU78))) (List.getElem?_eq_getElem hlt103)
      rw [show _ = _ from hR109.1] at hat108
      have hhR109 := hR109.2; simp only [I64] at hhR109
      refine WL.idx es29 rfl rfl hA106 (by omega) (by omega) ?_
      refine WL.load sc3 rfl (hat108.cell 0 _ rfl) ?_
      refine WL.assign rfl ?_
      refine WL.nil ?_
      refine CW.seq ?_
      refine CW.region ?_
      refine WL.move rfl ?_
      refine WL.geq rfl rfl ?_
      refine WL.nil ?_
      refine CW.condP rfl (fun hc110 => ?_) (fun hc110 => ?_)
      · refine CW.region ?_
        refine WL.move rfl ?_
        refine WL.move rfl ?_
        refine WL.sub_ rfl rfl (by omega) ?_
        refine WL.bslice1 (R := IntR) (y' := (((batchP indR us 0)[k].out)[j]) - 8192) Try.underlying29 ti3 rfl (by decide) (by decide) rfl ⟨rfl, by omega⟩ rfl hm80 (fun v111 w112 hS113 he114 => ?_)
        obtain ⟨A115, c116, rfl, hD117⟩ := hS113
        have u118 := Ext.up he114 hm80
        have e119 := Stp.ext hE79 he114
        have hm120 := Up.mb u118
        have h130 := Own.ext h88 he114 u118 (fun _ h => h)
        refine WL.appendR Try.underlying29 ti3 rfl (by decide) rfl rfl h130 (Sl.atl (SlD.sl hD117)) hm120 (by decide) (by first | omega | (simp; omega)) (fun A121 c122 w123 M124 hO125 hs126 u127 hsub128 hnew129 => ?_)
        have e131 := Stp.wr e119 hs126 (Wr.ofFr NoM wr93)
        have hm132 := Up.mb u127
        have hs0133 : Ms M M124 := fun k h => hsub128 k (hsb82 k h)
        have hs0134 : Ms M17 M124 := fun k h => hsub128 k (hs097 k h)
        have hs0135 : Ms M55 M124 := fun k h => hsub128 k (hsp81 k h)
        have dj136 := Dj.grow dj95 hnew129 mem98 hm120
        have dj137 := Dj.grow dj96 hnew129 mem100 hm120
        have fr139 := Ge.grow wr93 hnew129 (Stp.size e119)
        have ge140 := Ge.grow ge94 hnew129 (Stp.size (Up.stp (Up.trans hU26 (Up.trans u56 (Up.trans u71 (Up.trans hU78 u118))))))
        refine WL.assign rfl ?_
        refine WL.nil ?_
        refine CW.region ?_
        refine WL.add rfl rfl (by omega) ?_
        refine WL.move rfl ?_
        refine WL.nil ?_
        have hmn := meanUs_take_succ hjl hmu
        have hsn := meanU_sc hs30 hs31 huu
        have hme : meanU scz (batchP indR us 0)[k].out[j] = ([(batchP indR us 0)[k].out[j] - 8192], scz) := by unfold meanU; rw [if_pos (by omega)]
        rw [hme] at hmn hsn
        have h141 := Own.ext h83 he114 u118 (fun _ h => h)
        have mem142 : Ms (ob (.slice A19 (batchP indR us 0).length c20)) M124 := (fun k h => hsub128 k (mem98 k h))
        have h143 := Own.step h141 hs126 (Dj.symm dj95) u127 mem142
        have h144 := Bk.ext h87 he114
        have h145 := Bk.stp h144 hs126 ((Dj.symm dj96) _ rfl)
        refine Loop.again _ _ ?_ ?_ ⟨j + 1, o ++ [(((batchP indR us 0)[k].out)[j]) - 8192], scz, M124, A121, (o ++ [(((batchP indR us 0)[k].out)[j]) - 8192]).length, c122, rfl, rfl, (Up.trans hU78 (Up.trans u118 u127)), e131, hs0135, hs0133, h143, h145, hO125, (Own.ms hO125), fr139, ge140, dj136, dj137, by omega, hmn, hsn.1, hsn.2, by simp only [List.length_append, List.length_cons, List.length_nil]; omega⟩
        · omega
        · exact .cons (t := 4) rfl (.cons (t := 5) rfl (.cons (t := 6) rfl (.cons (t := 8) rfl (.cons (t := 14) rfl (.cons (t := 15) rfl (.cons (t := 16) rfl (.cons (t := 22) rfl (.cons (t := 23) rfl (.cons (t := 24) rfl (.nil _))))))))))
      · refine CW.seq ?_
        refine CW.region ?_
        refine WL.move rfl ?_
        refine WL.geq rfl rfl ?_
        refine WL.nil ?_
        refine CW.condP rfl (fun hc146 => ?_) (fun hc146 => ?_)
        · refine CW.region ?_
          refine WL.move rfl ?_
          refine WL.sub_ rfl rfl (by omega) ?_
          refine WL.assign rfl ?_
          refine WL.nil ?_
          refine CW.region ?_
          refine WL.add rfl rfl (by omega) ?_
          refine WL.move rfl ?_
          refine WL.nil ?_
          have hmn := meanUs_take_succ hjl hmu
          have hsn := meanU_sc hs30 hs31 huu
          have hme : meanU scz (batchP indR us 0)[k].out[j] = ([], (batchP indR us 0)[k].out[j] - 4096) := by unfold meanU; rw [if_neg (by omega), if_pos (by omega)]
          rw [hme] at hmn hsn
          refine Loop.again _ _ ?_ ?_ ⟨j + 1, o, (((batchP indR us 0)[k].out)[j]) - 4096, Mr77, A89, o.length, c91, rfl, rfl, hU78, hE79, hsp81, hsb82, h83, h87, h88, mem92, wr93, ge94, dj95, dj96, by omega, by rw [hmn]; simp, hsn.1, hsn.2, by omega⟩
          · omega
          · exact .cons (t := 4) rfl (.cons (t := 5) rfl (.cons (t := 6) rfl (.cons (t := 8) rfl (.cons (t := 14) rfl (.cons (t := 15) rfl (.cons (t := 16) rfl (.cons (t := 22) rfl (.cons (t := 23) rfl (.cons (t := 24) rfl (.nil _))))))))))
        · refine CW.region ?_
          refine WL.move rfl ?_
          refine WL.move rfl ?_
          refine WL.mul rfl rfl (by omega) ?_
          refine WL.add rfl rfl (by omega) ?_
          refine WL.move rfl ?_
          refine WL.add rfl rfl (by omega) ?_
          refine WL.bslice1 (R := IntR) (y' := (2304 + (128 * scz)) + (((batchP indR us 0)[k].out)[j])) Try.underlying29 ti3 rfl (by decide) (by decide) rfl ⟨rfl, by omega⟩ rfl hm80 (fun v147 w148 hS149 he150 => ?_)
          obtain ⟨A151, c152, rfl, hD153⟩ := hS149
          have u154 := Ext.up he150 hm80
          have e155 := Stp.ext hE79 he150
          have hm156 := Up.mb u154
          have h166 := Own.ext h88 he150 u154 (fun _ h => h)
          refine WL.appendR Try.underlying29 ti3 rfl (by decide) rfl rfl h166 (Sl.atl (SlD.sl hD153)) hm156 (by decide) (by first | omega | (simp; omega)) (fun A157 c158 w159 M160 hO161 hs162 u163 hsub164 hnew165 => ?_)
          have e167 := Stp.wr e155 hs162 (Wr.ofFr NoM wr93)
          have hm168 := Up.mb u163
          have hs0169 : Ms M M160 := fun k h => hsub164 k (hsb82 k h)
          have hs0170 : Ms M17 M160 := fun k h => hsub164 k (hs097 k h)
          have hs0171 : Ms M55 M160 := fun k h => hsub164 k (hsp81 k h)
          have dj172 := Dj.grow dj95 hnew165 mem98 hm156
          have dj173 := Dj.grow dj96 hnew165 mem100 hm156
          have fr175 := Ge.grow wr93 hnew165 (Stp.size e155)
          have ge176 := Ge.grow ge94 hnew165 (Stp.size (Up.stp (Up.trans hU26 (Up.trans u56 (Up.trans u71 (Up.trans hU78 u154))))))
          refine WL.assign rfl ?_
          refine WL.nil ?_
          refine CW.region ?_
          refine WL.add rfl rfl (by omega) ?_
          refine WL.move rfl ?_
          refine WL.nil ?_
          have hmn := meanUs_take_succ hjl hmu
          have hsn := meanU_sc hs30 hs31 huu
          have hme : meanU scz (batchP indR us 0)[k].out[j] = ([2304 + 128 * scz + (batchP indR us 0)[k].out[j]], scz) := by unfold meanU; rw [if_neg (by omega), if_neg (by omega)]
          rw [hme] at hmn hsn
          have h177 := Own.ext h83 he150 u154 (fun _ h => h)
          have mem178 : Ms (ob (.slice A19 (batchP indR us 0).length c20)) M160 := (fun k h => hsub164 k (mem98 k h))
          have h179 := Own.step h177 hs162 (Dj.symm dj95) u163 mem178
          have h180 := Bk.ext h87 he150
          have h181 := Bk.stp h180 hs162 ((Dj.symm dj96) _ rfl)
          refine Loop.again _ _ ?_ ?_ ⟨j + 1, o ++ [(2304 + (128 * scz)) + (((batchP indR us 0)[k].out)[j])], scz, M160, A157, (o ++ [(2304 + (128 * scz)) + (((batchP indR us 0)[k].out)[j])]).length, c158, rfl, rfl, (Up.trans hU78 (Up.trans u154 u163)), e167, hs0171, hs0169, h179, h181, hO161, (Own.ms hO161), fr175, ge176, dj172, dj173, by omega, hmn, hsn.1, hsn.2, by simp only [List.length_append, List.length_cons, List.length_nil]; omega⟩
          · omega
          · exact .cons (t := 4) rfl (.cons (t := 5) rfl (.cons (t := 6) rfl (.cons (t := 8) rfl (.cons (t := 14) rfl (.cons (t := 15) rfl (.cons (t := 16) rfl (.cons (t := 22) rfl (.cons (t := 23) rfl (.cons (t := 24) rfl (.nil _))))))))))
    · have hje : j = (batchP indR us 0)[k].out.length := by omega
      have hmu2 : meanUs sc2 (batchP indR us 0)[k].out = (o, scz) := by rw [← hmu, hje, List.take_length]
      have hD182 := Own.freeze h88 hm80
      have u183 := Up.freeze hm80 (ob (.slice A89 o.length c91))
      have hs0184 : Ms M (less Mr77 (ob (.slice A89 o.length c91))) := Ms.less hsb82 (Dj.symm (Dj.fresh wr93 (fun _ h => h) hm))
      have hs0185 : Ms M17 (less Mr77 (ob (.slice A89 o.length c91))) := Ms.less hs097 (Dj.symm (Dj.fresh ge94 (fun _ h => h) hm22))
      have hm186 := Up.mb u183
      have mem187 : Ms (ob (.slice A19 (batchP indR us 0).length c20)) (less Mr77 (ob (.slice A89 o.length c91))) := (Ms.less mem98 (Dj.symm dj95))
      have mem188 : Ms (vb g50) (less Mr77 (ob (.slice A89 o.length c91))) := (Ms.less mem100 (Dj.symm dj96))
      refine CW.exit ?_
      refine CW.region ?_
      refine WL.move rfl ?_
      refine WL.move rfl ?_
      refine WL.move rfl ?_
      have hlt189 : k < (pre ++ (batchP indR us 0).drop k).length := by first | omega | (simp only [List.length_append, List.length_set, List.length_drop]; omega)
      have h196 := Own.to h83 u183 mem187
      obtain ⟨ad190, cs191, hA192, hs193, hat194, hR195⟩ := Own.get h196 hlt189
      rw [show (pre ++ (batchP indR us 0).drop k)[k] = (batchP indR us 0)[k] from get_mid hpl hkl _] at hR195
      obtain ⟨_, hx199, ⟨A197, c198, rfl, hD200⟩, hi201, hi202, hi203⟩ := hR195
      rw [hx199] at hat194
      have hl204 := SlD.lim hD200
      simp only [I64] at hi201 hi202 hi203
      refine WL.idx es55 rfl rfl hA192 (by omega) (by omega) ?_
      refine WL.fieldAddr fo58_2 rfl ?_
      refine WL.storeOwnU (x' := meanTok sc2 (batchP indR us 0)[k]) (off := 2) h196 hA192 hm186 hlt189 (by decide) (by rw [ti29]; rfl) rfl rfl rfl (fun w_ cs_ u_ h_ => tok_out (by rw [get_mid hpl hkl _] at h_; exact h_) (by rw [hmu2]) (Sl.up (SlD.sl hD182) u_)) (fun w205 hO206 hs207 u208 => ?_)
      have e209 := Stp.wr hE79 hs207 (Wr.ofFr NoM fr24)
      have hm210 := Up.mb u208
      refine WL.nil ?_
      refine CW.region ?_
      refine WL.add rfl rfl (by omega) ?_
      refine WL.move rfl ?_
      refine WL.nil ?_
      have hml : (pre ++ [meanTok sc2 (batchP indR us 0)[k]]).length = k + 1 := by simp; omega
      refine Loop.again _ _ ?_ ?_ ⟨k + 1, pre ++ [meanTok sc2 (batchP indR us 0)[k]], scz, (less Mr77 (ob (.slice A89 o.length c91))), rfl, rfl, (Up.trans hU26 (Up.trans u56 (Up.trans u71 (Up.trans hU78 (Up.trans u183 u208))))), e209, hs0185, hs0184, Own.eq hO206 (set_mid hpl hkl _), by omega, by rw [meanT_take_succ hkl hj, hmu2], by omega, by omega⟩
      · omega
      · exact .cons (t := 4) rfl (.cons (t := 5) rfl (.cons (t := 14) rfl (.cons (t := 15) rfl (.cons (t := 16) rfl (.nil _)))))
  · have hke : k = (batchP indR us 0).length := by omega
    refine CW.exit ?_
    refine CW.seq ?_
    refine CW.region ?_
    refine WL.move rfl ?_
    refine WL.move rfl ?_
    refine WL.assign rfl ?_
    refine WL.assign rfl ?_
    refine WL.nil ?_
    refine CW.ret ?_
    refine Ret.two rfl rfl rfl ?_
    have hfin : meanT 0 (batchP indR us 0) = (pre, sc2) := by rw [← hj, hke, List.take_length]
    have hxe : pre ++ (batchP indR us 0).drop k = pre := by rw [hke, List.drop_length, List.append_nil]
    rw [hfin]
    exact ⟨_, _, rfl, ⟨Own.eq h31 hxe, fr24, (Up.trans (NewR.up hP4) (Up.trans u12 (Up.trans (NewR.up hP18) hU26))), hsb30, hE27⟩⟩
end Go.Proofs.Ytgbajkdomcmblaa
