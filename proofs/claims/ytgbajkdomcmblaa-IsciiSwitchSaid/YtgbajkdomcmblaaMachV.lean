/- The laws MachineSoon and MachineHeld answer true: walks. -/
import Derived.Test.YtgbajkdomcmblaaMachU
namespace Go.Proofs.Ytgbajkdomcmblaa
open Go Go.RowKit Vc
set_option linter.unusedVariables false
set_option linter.unusedSimpArgs false
private theorem mixed : Try.prog.follows .mixedOrders = true := by kernel_rfl
private theorem fo58_1 : fieldOff Try.prog 58 1 = some 1 := by kernel_rfl
private theorem es29 : elemSize Try.prog 29 = some 1 := by kernel_rfl
private theorem es55 : elemSize Try.prog 55 = some 4 := by kernel_rfl
private theorem sc3 : scalar Try.prog 3 = true := by kernel_rfl
private theorem ag58 : aggSize Try.prog 58 = some 4 := by kernel_rfl
private theorem ti58 : tinfo Try.prog 58 = some (some (.agg #[.int .i64 0, .int .i64 0, .slice none 0 0, .int .i64 0]), 4, 48) := by kernel_rfl
theorem few_len (l : List Int) : (fewP l).length ≤ 40 := by simp [fewP, someP]; omega
theorem lens_tot (ts : List PTok) : lens (ts.take 0) = 0 := by simp [lens]
theorem match_facts {rs : List PRule} (hr : RightR rs) (s : List Int × Int) (u : Int) : (matchPut rs s u).2.2 + (matchPut rs s u).2.1.length = s.2 + s.1.length + 1 ∧ ((matchPut rs s u).2.1 = [] ∨ openP rs (matchPut rs s u).2.1 = true) ∧
    s.2 + lens (matchPut rs s u).1 = (matchPut rs s u).2.2 ∧ ∀ x ∈ (matchPut rs s u).1, 1 ≤ x.len := by
  obtain ⟨h1, h2, h3, h4, h5⟩ := take_wait hr false _ (s.1 ++ [u]) s.2 (Nat.le_refl _)
  simp only [List.length_append, List.length_cons, List.length_nil] at h1
  exact ⟨by simp only [matchPut]; omega, h2, h4, toks_pos false _ _ _ (Nat.le_refl _)⟩
theorem enc_facts {rs : List PRule} (hg : GoodR rs) (s : EncS) (u : Int) (hl : s.ahead.length ≤ 8) : (encPut rs s u).2.a + (encPut rs s u).2.wait.length = s.a + s.wait.length + 1 ∧ ((encPut rs s u).2.wait = [] ∨ openP (turnP rs) (encPut rs s u).2.wait = true) ∧
    s.a ≤ (encPut rs s u).2.a ∧ (encPut rs s u).2.ahead.length ≤ 8 := by
  obtain ⟨h1, h2, h3, h4⟩ := match_facts hg.turn.right (s.wait, s.a) u
  have h5 := lens_nonneg _ h4
  have h6 := join_ahead_len rs 8 (takeP (turnP rs) false (s.wait ++ [u]) s.a).1 s.ahead hl (EncR.take_outs hg.turn false _ _ _ (Nat.le_refl _))
  refine ⟨h1, h2, ?_, h6⟩
  have h7 : (encPut rs s u).2.a = (matchPut (turnP rs) (s.wait, s.a) u).2.2 := rfl
  simp only [] at h3
  omega

theorem soon_walk (w : World) (M : MS) (hm : MB w M) {Ap1 : Option Addr} {cp1 : Nat} {rows : List PRow} (h1 : SlD RowR 5 w M Ap1 cp1 rows) {Ap2 : Option Addr} {cp2 : Nat} {l : List Int} (h2 : SlD ByteR 1 w M Ap2 cp2 l) :
    Fc Try.prog 5 #[.slice Ap1 rows.length cp1, .slice Ap2 l.length cp2] w fun v w' => v = .bool true ∧ Ext w w' := by
  have e0 := Stp.refl w (NoM : MS)
  have hs00 : Ms M M := fun _ h => h
  have hlim := h1.lim
  have hlim2 := h2.lim
  have hfl := few_len l
  refine Fc.enter (n := 60) [(0, .slice Ap1 rows.length cp1), (1, .slice Ap2 l.length cp2)] Try.func5 rfl rfl (Nat.le_of_ble_eq_true rfl) (.cons rfl (.cons rfl (.nil _))) ?_
  refine CW.seq ?_
  refine CW.region ?_
  refine WL.assign rfl ?_
  refine WL.nil ?_
  refine CW.seq ?_
  refine CW.seq ?_
  refine CW.region ?_
  refine WL.call Try.func24 rfl rfl (.nil) (awake_spec _ _ hm) (fun _ w1 hr2 => ?_)
  obtain ⟨rfl, he3⟩ := hr2
  have u4 := Ext.up he3 hm
  have e5 := Stp.ext e0 he3
  have hm6 := Up.mb u4
  refine WL.not_ rfl ?_
  refine WL.nil ?_
  refine CW.condF rfl ?_
  refine CW.skip ?_
  refine CW.seq ?_
  refine CW.region ?_
  refine WL.move rfl ?_
  refine WL.call Try.func26 rfl rfl (.cons rfl (.nil)) (Table_spec _ _ hm6 (h1.up u4)) (fun _ w10 hr11 => ?_)
  obtain ⟨⟨A7, c8, rfl, hD9⟩, he12⟩ := hr11
  have u13 := Ext.up he12 hm6
  have e14 := Stp.ext e5 he12
  have hm15 := Up.mb u13
  refine WL.call Try.func25 rfl rfl (.cons rfl (.nil)) (tableOf_spec _ _ hm15 hD9 (rows_good rows) (rows_closed rows)) (fun _ w16 hr17 => ?_)
  obtain ⟨⟨gt, rfl, hT⟩, he18⟩ := hr17
  have u19 := Ext.up he18 hm15
  have e20 := Stp.ext e14 he18
  have hm21 := Up.mb u19
  refine WL.move rfl ?_
  refine WL.extract rfl rfl ?_
  refine WL.extract rfl rfl ?_
  refine WL.assign rfl ?_
  refine WL.assign rfl ?_
  refine WL.nil ?_
  refine CW.seq ?_
  refine CW.seq ?_
  refine CW.region ?_
  refine WL.move rfl ?_
  refine WL.rn (Rn.pnil Try.underlying45 rfl) ?_
  refine WL.move rfl ?_
  refine WL.gtake rfl rfl rfl ?_
  refine WL.move rfl ?_
  refine WL.gtake rfl rfl rfl ?_
  refine WL.neq rfl rfl ?_
  refine WL.pickF rfl rfl ?_
  refine WL.nil ?_
  have hev22 : ¬ ((0 : Int) ≠ 0) := by decide
  refine CW.condP rfl (fun hn => absurd hn hev22) (fun _ => ?_)
  refine CW.skip ?_
  refine CW.seq ?_
  refine CW.region ?_
  refine WL.move rfl ?_
  refine WL.call Try.func27 rfl rfl (.cons rfl (.nil)) (decode_spec _ _ hm21 hT) (fun _ w23 hr24 => ?_)
  obtain ⟨gd25, rfl, M26, S27, hD28, hnw29, hu30, hms31, he32⟩ := hr24
  have e33 := Stp.ext e20 he32
  have hm34 := Up.mb hu30
  have hs035 : Ms M M26 := fun k h => hms31 k (hs00 k h)
  have fr36 := Ge.le hnw29 (Stp.size e20)
  refine WL.assign rfl ?_
  refine WL.nil ?_
  refine CW.seq ?_
  refine CW.seq ?_
  refine CW.region ?_
  refine WL.move rfl ?_
  refine WL.rn (Rn.inil Try.underlying52 rfl) ?_
  refine WL.nil ?_
  refine CW.condF rfl ?_
  refine CW.skip ?_
  refine CW.seq ?_
  refine CW.region ?_
  refine WL.assign rfl ?_
  refine WL.nil ?_
  refine CW.seq ?_
  refine CW.seq ?_
  refine CW.region ?_
  refine WL.move rfl ?_
  refine WL.call Try.func28 rfl rfl (.cons rfl (.nil)) (few_spec _ _ hm34 (h2.up (Up.trans u4 (Up.trans u13 (Up.trans u19 hu30))))) (fun _ w40 hr41 => ?_)
  obtain ⟨⟨A37, c38, rfl, hD39⟩, he42⟩ := hr41
  have u43 := Ext.up he42 hm34
  have e44 := Stp.ext e33 he42
  have hm45 := Up.mb u43
  refine WL.len Try.underlying29 rfl ?_
  refine WL.move rfl ?_
  refine WL.nil ?_
  refine CW.block ?_
  have mem53 : Ms S27 M26 := (DecO.ms hD28)
  have h54 := DecO.step hD28 he42 (fun _ _ h => h) u43 mem53
  refine CW.loop (fun m σ wr0 => ∃ k : Nat, ∃ s2 : List Int × Int, ∃ a0 : Int, ∃ Sg : MS, ∃ Mr46 : MS, m = (fewP l).length - k ∧ σ = [(7, .iface 109 (.pointer (some ⟨gd25, 0, none⟩))), (8, .int .i64 a0), (32, .slice A37 ((fewP l).length) c38), (33, .int .i64 ((fewP l).length : Int)), (34, .int .i64 (k : Int))] ∧ (Up w40 M26 wr0 Mr46) ∧ (Stp w wr0 NoM) ∧ (Ms M26 Mr46) ∧ (Ms M Mr46) ∧ (DecO gd25 (rowsP rows) wr0 Mr46 Sg s2) ∧ (Ms (Sg) Mr46) ∧ (∀ q_, (Sg) q_ → w.heap.size ≤ q_) ∧ (k ≤ (fewP l).length) ∧ (0 ≤ s2.2) ∧ (s2.2 + s2.1.length = k) ∧ (a0 = s2.2)) _ _ (.cons (t := 7) rfl (.cons (t := 8) rfl (.cons (t := 32) rfl (.cons (t := 33) rfl (.cons (t := 34) rfl (.nil _)))))) ⟨0, ([], 0), 0, S27, M26, rfl, rfl, Up.refl hm45, e44, fun _ h => h, hs035, h54, mem53, fr36, by omega, by decide, by simp, rfl⟩ ?_
  rintro m _ wr0 ⟨k, s2, a0, Sg, Mr46, rfl, rfl, hU47, hE48, hsp50, hsb51, h52, mem55, wr56, hk, hs0, hsk, ha0⟩
  have hm49 := Up.mb hU47
  refine CW.seq ?_
  refine CW.region ?_
  refine WL.lss rfl rfl ?_
  refine WL.nil ?_
  refine CW.seq ?_
  refine CW.condP rfl (fun hc57 => ?_) (fun hc57 => ?_)
  · have hkl : k < (fewP l).length := by omega
    obtain ⟨ht1, ht2, ht4, hpos⟩ := match_facts (rows_good rows).right s2 (fewP l)[k]
    have hll := lens_le hpos
    have hfull := (hll 0).1
    have hfull2 := lens_nonneg _ hpos
    refine CW.skip ?_
    refine CW.seq ?_
    refine CW.block ?_
    refine CW.seq ?_
    refine CW.region ?_
    refine WL.move rfl ?_
    have hlt58 : k < (fewP l).length := by omega
    obtain ⟨ad59, cs60, hA61, hs62, hat63, hR64⟩ := SlD.get (hD39.up hU47) (List.getElem?_eq_getElem hlt58)
    rw [show _ = _ from hR64.1] at hat63
    have hhR64 := hR64.2; simp only [I64] at hhR64
    refine WL.idx es29 rfl rfl hA61 (by omega) (by omega) ?_
    refine WL.load sc3 rfl (hat63.cell 0 _ rfl) ?_
    refine WL.assign rfl ?_
    refine WL.assign rfl ?_
    refine WL.nil ?_
    refine CW.seq ?_
    refine CW.seq ?_
    refine CW.region ?_
    refine WL.move rfl ?_
    refine WL.move rfl ?_
    obtain ⟨f65, r66, fn67, hm68, hf69, hn70, hb71, hF72⟩ := (dec_mach (rows_good rows) gd25).put (u := (fewP l)[k]) (n := 0) h52 hm49 ⟨hs0, by omega⟩ (SlD.i64 (hD39.up hU47) hkl)
    refine WL.invoke rfl hm68 hf69 hn70 hb71 (.cons rfl (.nil)) (hF72) (fun _ w73 hr74 => ?_)
    obtain ⟨M75, S76, hP77, hM78⟩ := hr74
    obtain ⟨A79, c80, rfl⟩ := Own.form hP77.own
    have hM81 : DecO gd25 (rowsP rows) w73 M75 S76 (matchPut (rowsP rows) s2 ((fewP l)[k])).2 := hM78
    have e82 := Stp.wr hE48 (PutR.stp hP77) (Wr.ofFr NoM wr56)
    have hm83 := Up.mb (PutR.up hP77)
    have hs084 : Ms M M75 := fun k h => (PutR.ms hP77) k (hsb51 k h)
    have hs085 : Ms M26 M75 := fun k h => (PutR.ms hP77) k (hsp50 k h)
    have fr87 := Ge.grow wr56 (PutR.wr hP77) (Stp.size hE48)
    have fr88 := Ge.le (PutR.new hP77) (Stp.size hE48)
    refine WL.len Try.underlying55 rfl ?_
    refine WL.move rfl ?_
    refine WL.nil ?_
    refine CW.block ?_
    refine CW.loop (fun m σ wr1 => ∃ j : Nat, ∃ b : Int, ∃ Mr89 : MS, m = (matchPut (rowsP rows) s2 (fewP l)[k]).1.length - j ∧ σ = [(7, .iface 109 (.pointer (some ⟨gd25, 0, none⟩))), (8, .int .i64 b), (9, .int .i64 (k : Int)), (32, .slice A37 ((fewP l).length) c38), (33, .int .i64 ((fewP l).length : Int)), (34, .int .i64 (k : Int)), (41, .slice A79 (((matchPut (rowsP rows) s2 ((fewP l)[k])).1).length) c80), (42, .int .i64 (((matchPut (rowsP rows) s2 ((fewP l)[k])).1).length : Int)), (43, .int .i64 (j : Int))] ∧ (Up w73 M75 wr1 Mr89) ∧ (Stp w wr1 NoM) ∧ (Ms M75 Mr89) ∧ (Ms M Mr89) ∧ (DecO gd25 (rowsP rows) wr1 Mr89 S76 (matchPut (rowsP rows) s2 ((fewP l)[k])).2) ∧ (Own TokR 4 58 wr1 Mr89 0 (.slice A79 (((matchPut (rowsP rows) s2 ((fewP l)[k])).1).length) c80) ((matchPut (rowsP rows) s2 ((fewP l)[k])).1)) ∧ (j ≤ (matchPut (rowsP rows) s2 (fewP l)[k]).1.length) ∧ (b = s2.2 + lens ((matchPut (rowsP rows) s2 (fewP l)[k]).1.take j))) _ _ (.cons (t := 7) rfl (.cons (t := 8) rfl (.cons (t := 9) rfl (.cons (t := 32) rfl (.cons (t := 33) rfl (.cons (t := 34) rfl (.cons (t := 41) rfl (.cons (t := 42) rfl (.cons (t := 43) rfl (.nil _)))))))))) ⟨0, a0, M75, rfl, rfl, Up.refl hm83, e82, fun _ h => h, hs084, hM81, (PutR.own hP77), by omega, by rw [lens_tot]; omega⟩ ?_
    rintro m _ wr1 ⟨j, b, Mr89, rfl, rfl, hU90, hE91, hsp93, hsb94, h95, h96, hj, hb⟩
    have hm92 := Up.mb hU90
    have hs097 : Ms M26 Mr89 := fun k h => hsp93 k (hs085 k h)
    have mem98 : Ms S76 Mr89 := (fun k h => hsp93 k ((DecO.ms hM81) k h))
    have mem99 : Ms (ob (.slice A79 ((matchPut (rowsP rows) s2 ((fewP l)[k])).1).length c80)) Mr89 := (fun k h => hsp93 k ((Own.ms (PutR.own hP77)) k h))
    have hlen100 := Own.len h96
    have hlj := hll j
    refine CW.seq ?_
    refine CW.region ?_
    refine WL.lss rfl rfl ?_
    refine WL.nil ?_
    refine CW.seq ?_
    refine CW.condP rfl (fun hc101 => ?_) (fun hc101 => ?_)
    · have hjl : j < (matchPut (rowsP rows) s2 (fewP l)[k]).1.length := by omega
      have hls := lens_take_succ hjl
      have hlj2 := hll (j + 1)
      refine CW.skip ?_
      refine CW.seq ?_
      refine CW.block ?_
      refine CW.seq ?_
      refine CW.region ?_
      have hlt102 : j < ((matchPut (rowsP rows) s2 ((fewP l)[k])).1).length := by omega
      obtain ⟨ad103, cs104, hA105, hs106, hat107, hR108⟩ := Own.get h96 hlt102
      obtain ⟨_, hx111, ⟨A109, c110, rfl, hD112⟩, hi113, hi114, hi115⟩ := hR108
      rw [hx111] at hat107
      have hl116 := SlD.lim hD112
      simp only [I64] at hi113 hi114 hi115
      refine WL.idx es55 rfl rfl hA105 (by omega) (by omega) ?_
      refine WL.loadAgg (M := fun _ => False) (cs := [.int .i64 (((matchPut (rowsP rows) s2 ((fewP l)[k])).1)[j].at_), .int .i64 (((matchPut (rowsP rows) s2 ((fewP l)[k])).1)[j].len), .slice A109 (((matchPut (rowsP rows) s2 ((fewP l)[k])).1)[j].out.length) c110, .int .i64 (((matchPut (rowsP rows) s2 ((fewP l)[k])).1)[j].err)]) ag58 rfl hat107 ?_
      refine WL.alloc (cs := [.int .i64 0, .int .i64 0, .slice none 0 0, .int .i64 0]) ti58 rfl (fun g117 w118 hg119 hb120 he121 => ?_)
      obtain ⟨M122, u123, mem124, hsub125, hinv126⟩ := Ext.addVar he121 hm92 hg119 hb120
      have ge127 : ∀ q_, vb g117 q_ → wr1.heap.size ≤ q_ := fun q_ hq_ => by rw [hq_]; exact hg119
      have mem128 := Ms.one mem124
      have e129 := Stp.ext hE91 he121
      have hm130 := Up.mb u123
      have hs0131 : Ms M M122 := fun k h => hsub125 k (hsb94 k h)
      have hs0132 : Ms M26 M122 := fun k h => hsub125 k (hs097 k h)
      have hs0133 : Ms M75 M122 := fun k h => hsub125 k (hsp93 k h)
      have dj134 := Dj.fresh (T := S76) ge127 mem98 hm92
      have dj135 := Dj.fresh (T := (ob (.slice A79 ((matchPut (rowsP rows) s2 ((fewP l)[k])).1).length c80))) ge127 mem99 hm92
      have fr136 := Ge.le ge127 (Stp.size hE91)
      refine WL.storeAll (vs := [.int .i64 (((matchPut (rowsP rows) s2 ((fewP l)[k])).1)[j].at_), .int .i64 (((matchPut (rowsP rows) s2 ((fewP l)[k])).1)[j].len), .slice A109 (((matchPut (rowsP rows) s2 ((fewP l)[k])).1)[j].out.length) c110, .int .i64 (((matchPut (rowsP rows) s2 ((fewP l)[k])).1)[j].err)]) (by rw [ti58]; rfl) rfl rfl (by simp [Value.oneCell']) hb120 rfl (fun w137 hb138 hs139 => ?_)
      have u140 := Stp.upM hs139 hm130 mem128
      have e141 := Stp.wr e129 hs139 (Wr.ofFr NoM fr136)
      have hm142 := Up.mb u140
      refine WL.nil ?_
      refine CW.region ?_
      refine WL.move rfl ?_
      refine WL.fieldAddr fo58_1 rfl ?_
      refine WL.load sc3 rfl ((Bk.at_ (M := fun _ => False) hb138 (fun h => h)).cell 1 _ rfl) ?_
      refine WL.add rfl rfl (by omega) ?_
      refine WL.assign rfl ?_
      refine WL.nil ?_
      refine CW.region ?_
      refine WL.add rfl rfl (by omega) ?_
      refine WL.move rfl ?_
      refine WL.nil ?_
      have mem143 : Ms S76 M122 := (fun k h => hsub125 k (mem98 k h))
      have h144 := DecO.step h95 he121 (fun _ _ h => h) u123 mem143
      have h145 := DecO.step h144 hs139 (Dj.symm dj134) u140 mem143
      have h146 := Own.ext h96 he121 u123 hsub125
      have mem147 : Ms (ob (.slice A79 ((matchPut (rowsP rows) s2 ((fewP l)[k])).1).length c80)) M122 := (fun k h => hsub125 k (mem99 k h))
      have h148 := Own.step h146 hs139 (Dj.symm dj135) u140 mem147
      refine Loop.again _ _ ?_ ?_ ⟨j + 1, b + (((matchPut (rowsP rows) s2 ((fewP l)[k])).1)[j].len), M122, rfl, rfl, (Up.trans hU90 (Up.trans u123 u140)), e141, hs0133, hs0131, h145, h148, by omega, by omega⟩
      · omega
      · exact .cons (t := 7) rfl (.cons (t := 8) rfl (.cons (t := 9) rfl (.cons (t := 32) rfl (.cons (t := 33) rfl (.cons (t := 34) rfl (.cons (t := 41) rfl (.cons (t := 42) rfl (.cons (t := 43) rfl (.nil _)))))))))
    · have hje : lens ((matchPut (rowsP rows) s2 (fewP l)[k]).1.take j) = lens (matchPut (rowsP rows) s2 (fewP l)[k]).1 := by rw [List.take_of_length_le (by omega)]
      refine CW.exit ?_
      refine CW.seq ?_
      refine CW.region ?_
      refine WL.move rfl ?_
      refine WL.move rfl ?_
      obtain ⟨r149, hm150, hF151⟩ := dec_held h95 hm92
      refine WL.invoke rfl hm150 Try.func74 rfl rfl (.nil) (hF151) (fun _ w152 hr153 => ?_)
      obtain ⟨rfl, he154⟩ := hr153
      have u155 := Ext.up he154 hm92
      have e156 := Stp.ext hE91 he154
      have hm157 := Up.mb u155
      refine WL.add rfl rfl (by omega) ?_
      refine WL.move rfl ?_
      refine WL.add rfl rfl (by omega) ?_
      refine WL.neq rfl rfl ?_
      refine WL.nil ?_
      have hev158 : ¬ (b + (((matchPut (rowsP rows) s2 ((fewP l)[k])).2).1.length : Int) ≠ (k : Int) + 1) := by omega
      refine CW.condP rfl (fun hn => absurd hn hev158) (fun _ => ?_)
      refine CW.skip ?_
      refine CW.region ?_
      refine WL.add rfl rfl (by omega) ?_
      refine WL.move rfl ?_
      refine WL.nil ?_
      have h159 := DecO.step h95 he154 (fun _ _ h => h) u155 mem98
      refine Loop.again _ _ ?_ ?_ ⟨k + 1, (matchPut (rowsP rows) s2 (fewP l)[k]).2, b, S76, Mr89, rfl, rfl, (Up.trans hU47 (Up.trans (PutR.up hP77) (Up.trans hU90 u155))), e156, hs097, hsb94, h159, mem98, fr87, by omega, by omega, by omega, by omega⟩
      · omega
      · exact .cons (t := 7) rfl (.cons (t := 8) rfl (.cons (t := 32) rfl (.cons (t := 33) rfl (.cons (t := 34) rfl (.nil _)))))
  · refine CW.exit ?_
    refine CW.seq ?_
    refine CW.region ?_
    refine WL.assign rfl ?_
    refine WL.nil ?_
    refine CW.ret ?_
    refine Ret.one rfl rfl ?_
    exact ⟨rfl, hE48⟩

theorem held_walk (w : World) (M : MS) (hm : MB w M) {Ap1 : Option Addr} {cp1 : Nat} {rows : List PRow} (h1 : SlD RowR 5 w M Ap1 cp1 rows) {Ap2 : Option Addr} {cp2 : Nat} {l : List Int} (h2 : SlD ByteR 1 w M Ap2 cp2 l) :
    Fc Try.prog 6 #[.slice Ap1 rows.length cp1, .slice Ap2 l.length cp2] w fun v w' => v = .bool true ∧ Ext w w' := by
  have e0 := Stp.refl w (NoM : MS)
  have hs00 : Ms M M := fun _ h => h
  have hlim := h1.lim
  have hlim2 := h2.lim
  have hfl := few_len l
  refine Fc.enter (n := 68) [(0, .slice Ap1 rows.length cp1), (1, .slice Ap2 l.length cp2)] Try.func6 rfl rfl (Nat.le_of_ble_eq_true rfl) (.cons rfl (.cons rfl (.nil _))) ?_
  refine CW.seq ?_
  refine CW.region ?_
  refine WL.assign rfl ?_
  refine WL.nil ?_
  refine CW.seq ?_
  refine CW.seq ?_
  refine CW.region ?_
  refine WL.call Try.func24 rfl rfl (.nil) (awake_spec _ _ hm) (fun _ w1 hr2 => ?_)
  obtain ⟨rfl, he3⟩ := hr2
  have u4 := Ext.up he3 hm
  have e5 := Stp.ext e0 he3
  have hm6 := Up.mb u4
  refine WL.not_ rfl ?_
  refine WL.nil ?_
  refine CW.condF rfl ?_
  refine CW.skip ?_
  refine CW.seq ?_
  refine CW.region ?_
  refine WL.move rfl ?_
  refine WL.call Try.func26 rfl rfl (.cons rfl (.nil)) (Table_spec _ _ hm6 (h1.up u4)) (fun _ w10 hr11 => ?_)
  obtain ⟨⟨A7, c8, rfl, hD9⟩, he12⟩ := hr11
  have u13 := Ext.up he12 hm6
  have e14 := Stp.ext e5 he12
  have hm15 := Up.mb u13
  refine WL.call Try.func25 rfl rfl (.cons rfl (.nil)) (tableOf_spec _ _ hm15 hD9 (rows_good rows) (rows_closed rows)) (fun _ w16 hr17 => ?_)
  obtain ⟨⟨gt, rfl, hT⟩, he18⟩ := hr17
  have u19 := Ext.up he18 hm15
  have e20 := Stp.ext e14 he18
  have hm21 := Up.mb u19
  have hT2 := hT
  obtain ⟨gr, gw, hTp, _, _⟩ := hT2
  refine WL.move rfl ?_
  refine WL.extract rfl rfl ?_
  refine WL.extract rfl rfl ?_
  refine WL.assign rfl ?_
  refine WL.assign rfl ?_
  refine WL.nil ?_
  refine CW.seq ?_
  refine CW.seq ?_
  refine CW.region ?_
  refine WL.move rfl ?_
  refine WL.rn (Rn.pnil Try.underlying45 rfl) ?_
  refine WL.move rfl ?_
  refine WL.gtake rfl rfl rfl ?_
  refine WL.move rfl ?_
  refine WL.gtake rfl rfl rfl ?_
  refine WL.neq rfl rfl ?_
  refine WL.pickF rfl rfl ?_
  refine WL.nil ?_
  have hev22 : ¬ ((0 : Int) ≠ 0) := by decide
  refine CW.condP rfl (fun hn => absurd hn hev22) (fun _ => ?_)
  refine CW.skip ?_
  refine CW.seq ?_
  refine CW.region ?_
  refine WL.move rfl ?_
  refine WL.call Try.func27 rfl rfl (.cons rfl (.nil)) (decode_spec _ _ hm21 hT) (fun _ w23 hr24 => ?_)
  obtain ⟨gd25, rfl, M26, S27, hD28, hnw29, hu30, hms31, he32⟩ := hr24
  have e33 := Stp.ext e20 he32
  have hm34 := Up.mb hu30
  have hs035 : Ms M M26 := fun k h => hms31 k (hs00 k h)
  have fr36 := Ge.le hnw29 (Stp.size e20)
  refine WL.move rfl ?_
  refine WL.call Try.func29 rfl rfl (.cons rfl (.nil)) (encode_spec _ _ hm34 (hT.up hu30)) (fun _ w37 hr38 => ?_)
  obtain ⟨ge39, rfl, M40, S41, hE42, hnw43, hu44, hms45, he46⟩ := hr38
  have e47 := Stp.ext e33 he46
  have hm48 := Up.mb hu44
  have hs049 : Ms M M40 := fun k h => hms45 k (hs035 k h)
  have dj50 := Dj.fresh (T := S27) hnw43 (DecO.ms hD28) hm34
  have fr51 := Ge.le hnw43 (Stp.size e33)
  refine WL.assign rfl ?_
  refine WL.assign rfl ?_
  refine WL.nil ?_
  refine CW.seq ?_
  refine CW.seq ?_
  refine CW.region ?_
  refine WL.move rfl ?_
  refine WL.rn (Rn.inil Try.underlying52 rfl) ?_
  refine WL.move rfl ?_
  refine WL.gtake rfl rfl rfl ?_
  refine WL.move rfl ?_
  refine WL.gtake rfl rfl rfl ?_
  refine WL.rn (Rn.pnil Try.underlying61 rfl) ?_
  refine WL.pickF rfl rfl ?_
  refine WL.nil ?_
  refine CW.condF rfl ?_
  refine CW.skip ?_
  refine CW.seq ?_
  refine CW.region ?_
  refine WL.move rfl ?_
  refine WL.call Try.func30 rfl rfl (.cons rfl (.nil)) (tableLongest_spec _ _ hm48 (hTp.up (Up.trans hu30 hu44))) (fun _ w52 hr53 => ?_)
  obtain ⟨rfl, he54⟩ := hr53
  have u55 := Ext.up he54 hm48
  have e56 := Stp.ext e47 he54
  have hm57 := Up.mb u55
  refine WL.move rfl ?_
  refine WL.extract rfl rfl ?_
  refine WL.extract rfl rfl ?_
  refine WL.assign rfl ?_
  refine WL.assign rfl ?_
  refine WL.nil ?_
  refine CW.seq ?_
  refine CW.seq ?_
  refine CW.region ?_
  refine WL.move rfl ?_
  refine WL.call Try.func28 rfl rfl (.cons rfl (.nil)) (few_spec _ _ hm57 (h2.up (Up.trans u4 (Up.trans u13 (Up.trans u19 (Up.trans hu30 (Up.trans hu44 u55))))))) (fun _ w61 hr62 => ?_)
  obtain ⟨⟨A58, c59, rfl, hD60⟩, he63⟩ := hr62
  have u64 := Ext.up he63 hm57
  have e65 := Stp.ext e56 he63
  have hm66 := Up.mb u64
  refine WL.len Try.underlying29 rfl ?_
  refine WL.move rfl ?_
  refine WL.nil ?_
  refine CW.block ?_
  have mem74 : Ms S27 M40 := (fun k h => hms45 k ((DecO.ms hD28) k h))
  have h75 := DecO.step hD28 he46 (fun _ _ h => h) hu44 mem74
  have h76 := DecO.step h75 he54 (fun _ _ h => h) u55 mem74
  have h77 := DecO.step h76 he63 (fun _ _ h => h) u64 mem74
  have mem79 : Ms S41 M40 := (EncR.ms hE42)
  have h80 := EncR.step hE42 he54 (fun _ _ h => h) u55 mem79
  have h81 := EncR.step h80 he63 (fun _ _ h => h) u64 mem79
  refine CW.loop (fun m σ wr0 => ∃ k : Nat, ∃ s2 : List Int × Int, ∃ s3 : EncS, ∃ Sg : MS, ∃ Sh : MS, ∃ Mr67 : MS, m = (fewP l).length - k ∧ σ = [(7, .iface 109 (.pointer (some ⟨gd25, 0, none⟩))), (8, .pointer (some ⟨ge39, 0, none⟩)), (9, .int .i64 (longP (rowsP rows))), (10, .int .i64 (longP (turnP (rowsP rows)))), (43, .slice A58 ((fewP l).length) c59), (44, .int .i64 ((fewP l).length : Int)), (45, .int .i64 (k : Int))] ∧ (Up w61 M40 wr0 Mr67) ∧ (Stp w wr0 NoM) ∧ (Ms M40 Mr67) ∧ (Ms M Mr67) ∧ (DecO gd25 (rowsP rows) wr0 Mr67 Sg s2) ∧ (EncO ge39 (rowsP rows) wr0 Mr67 Sh s3) ∧ (Ms (Sg) Mr67) ∧ (∀ q_, (Sg) q_ → w.heap.size ≤ q_) ∧ (Dj (Sg) (Sh)) ∧ (Ms (Sh) Mr67) ∧ (∀ q_, (Sh) q_ → w.heap.size ≤ q_) ∧ (k ≤ (fewP l).length) ∧ (0 ≤ s2.2) ∧ (s2.2 + s2.1.length = k) ∧ (0 ≤ s3.a) ∧ (s3.a + s3.wait.length = k) ∧ (s3.ahead.length ≤ 8)) _ _ (.cons (t := 7) rfl (.cons (t := 8) rfl (.cons (t := 9) rfl (.cons (t := 10) rfl (.cons (t := 43) rfl (.cons (t := 44) rfl (.cons (t := 45) rfl (.nil _)))))))) ⟨0, ([], 0), ⟨[], 0, []⟩, S27, S41, M40, rfl, rfl, Up.refl hm66, e65, fun _ h => h, hs049, h77, h81, mem74, fr36, (Dj.symm dj50), mem79, fr51, by omega, by decide, by simp, by decide, by simp, by decide⟩ ?_
  rintro m _ wr0 ⟨k, s2, s3, Sg, Sh, Mr67, rfl, rfl, hU68, hE69, hsp71, hsb72, h73, h78, mem82, wr83, dj84, mem85, wr86, hk, hs0, hsk, hs3, hs3k, hs3l⟩
  have hm70 := Up.mb hU68
  refine CW.seq ?_
  refine CW.region ?_
  refine WL.lss rfl rfl ?_
  refine WL.nil ?_
  refine CW.seq ?_
  refine CW.condP rfl (fun hc87 => ?_) (fun hc87 => ?_)
  · have hkl : k < (fewP l).length := by omega
    obtain ⟨ht1, ht2, ht4, hpos⟩ := match_facts (rows_good rows).right s2 (fewP l)[k]
    have hfull2 := lens_nonneg _ hpos
    have hw1 := wait_few ht2
    obtain ⟨he1, he2, he3, he5⟩ := enc_facts (rows_good rows) s3 (fewP l)[k] hs3l
    have hw2 := wait_few he2
    refine CW.skip ?_
    refine CW.seq ?_
    refine CW.block ?_
    refine CW.seq ?_
    refine CW.region ?_
    have hlt88 : k < (fewP l).length := by omega
    obtain ⟨ad89, cs90, hA91, hs92, hat93, hR94⟩ := SlD.get (hD60.up hU68) (List.getElem?_eq_getElem hlt88)
    rw [show _ = _ from hR94.1] at hat93
    have hhR94 := hR94.2; simp only [I64] at hhR94
    refine WL.idx es29 rfl rfl hA91 (by omega) (by omega) ?_
    refine WL.load sc3 rfl (hat93.cell 0 _ rfl) ?_
    refine WL.assign rfl ?_
    refine WL.nil ?_
    refine CW.seq ?_
    refine CW.region ?_
    refine WL.move rfl ?_
    refine WL.move rfl ?_
    obtain ⟨f95, r96, fn97, hm98, hf99, hn100, hb101, hF102⟩ := (dec_mach (rows_good rows) gd25).put (u := (fewP l)[k]) (n := 0) h73 hm70 ⟨hs0, by omega⟩ (SlD.i64 (hD60.up hU68) hkl)
    refine WL.invoke rfl hm98 hf99 hn100 hb101 (.cons rfl (.nil)) (hF102) (fun _ w103 hr104 => ?_)
    obtain ⟨M105, S106, hP107, hM108⟩ := hr104
    obtain ⟨A109, c110, rfl⟩ := Own.form hP107.own
    have hM111 : DecO gd25 (rowsP rows) w103 M105 S106 (matchPut (rowsP rows) s2 ((fewP l)[k])).2 := hM108
    have e112 := Stp.wr hE69 (PutR.stp hP107) (Wr.ofFr NoM wr83)
    have hm113 := Up.mb (PutR.up hP107)
    have hs0114 : Ms M M105 := fun k h => (PutR.ms hP107) k (hsb72 k h)
    have hs0115 : Ms M40 M105 := fun k h => (PutR.ms hP107) k (hsp71 k h)
    have dj116 := Dj.grow dj84 (PutR.wr hP107) mem85 hm70
    have fr118 := Ge.grow wr83 (PutR.wr hP107) (Stp.size hE69)
    have dj119 := Dj.fresh (T := Sh) (PutR.new hP107) mem85 hm70
    have fr120 := Ge.le (PutR.new hP107) (Stp.size hE69)
    refine WL.nil ?_
    refine CW.seq ?_
    refine CW.region ?_
    refine WL.move rfl ?_
    refine WL.move rfl ?_
    have mem122 : Ms Sh M105 := (fun k h => (PutR.ms hP107) k (mem85 k h))
    have h123 := EncR.step h78 (PutR.stp hP107) (Dj.symm dj84) (PutR.up hP107) mem122
    have hF121 := encPutO (u := (fewP l)[k]) h123 hm113 (rows_good rows) (n := 0) ⟨by omega, by omega, hs3l⟩ (SlD.i64 (hD60.up (Up.trans hU68 (PutR.up hP107))) hkl)
    refine WL.call Try.func31 rfl rfl (.cons rfl (.cons rfl (.nil))) (hF121) (fun _ w124 hr125 => ?_)
    obtain ⟨M126, S127, hP128, hM129⟩ := hr125
    obtain ⟨A130, c131, rfl⟩ := Own.form hP128.own
    have hM132 : EncO ge39 (rowsP rows) w124 M126 S127 (encPut (rowsP rows) s3 ((fewP l)[k])).2 := hM129
    have e133 := Stp.wr e112 (PutR.stp hP128) (Wr.ofFr NoM wr86)
    have hm134 := Up.mb (PutR.up hP128)
    have hs0135 : Ms M M126 := fun k h => (PutR.ms hP128) k (hs0114 k h)
    have hs0136 : Ms M40 M126 := fun k h => (PutR.ms hP128) k (hs0115 k h)
    have dj137 := Dj.grow (Dj.symm dj116) (PutR.wr hP128) (DecO.ms hM111) hm113
    have dj138 := Dj.grow (Dj.symm dj119) (PutR.wr hP128) (Own.ms (PutR.own hP107)) hm113
    have fr140 := Ge.grow wr86 (PutR.wr hP128) (Stp.size e112)
    have dj141 := Dj.fresh (T := S106) (PutR.new hP128) (DecO.ms hM111) hm113
    have dj142 := Dj.fresh (T := (ob (.slice A109 ((matchPut (rowsP rows) s2 ((fewP l)[k])).1).length c110))) (PutR.new hP128) (Own.ms (PutR.own hP107)) hm113
    have fr143 := Ge.le (PutR.new hP128) (Stp.size e112)
    refine WL.nil ?_
    refine CW.seq ?_
    refine CW.region ?_
    refine WL.move rfl ?_
    have mem147 : Ms S106 M126 := (fun k h => (PutR.ms hP128) k ((DecO.ms hM111) k h))
    have h148 := DecO.step hM111 (PutR.stp hP128) dj116 (PutR.up hP128) mem147
    obtain ⟨r144, hm145, hF146⟩ := dec_held h148 hm134
    refine WL.invoke rfl hm145 Try.func74 rfl rfl (.nil) (hF146) (fun _ w149 hr150 => ?_)
    obtain ⟨rfl, he151⟩ := hr150
    have u152 := Ext.up he151 hm134
    have e153 := Stp.ext e133 he151
    have hm154 := Up.mb u152
    refine WL.move rfl ?_
    refine WL.imax rfl rfl ?_
    refine WL.geq rfl rfl ?_
    refine WL.move rfl ?_
    have hev155 : ¬ (max 1 (longP (rowsP rows)) ≤ (((matchPut (rowsP rows) s2 ((fewP l)[k])).2).1.length : Int)) := by omega
    refine WL.gtake rfl rfl (decide_eq_false hev155) ?_
    refine WL.move rfl ?_
    refine WL.gtake rfl rfl (decide_eq_false hev155) ?_
    have mem156 : Ms S127 M126 := (EncR.ms hM132)
    have h157 := EncR.step hM132 he151 (fun _ _ h => h) u152 mem156
    refine WL.call Try.func32 rfl rfl (.cons rfl (.nil)) (encHeld_spec _ _ hm154 h157) (fun _ w158 hr159 => ?_)
    obtain ⟨rfl, he160⟩ := hr159
    have u161 := Ext.up he160 hm154
    have e162 := Stp.ext e153 he160
    have hm163 := Up.mb u161
    refine WL.gtake rfl rfl (decide_eq_false hev155) ?_
    refine WL.move rfl ?_
    refine WL.gtake rfl rfl (decide_eq_false hev155) ?_
    refine WL.imax rfl rfl ?_
    refine WL.gtake rfl rfl (decide_eq_false hev155) ?_
    refine WL.geq rfl rfl ?_
    refine WL.pickF (congrArg (fun b => some (Value.bool b)) (decide_eq_false hev155)) rfl ?_
    refine WL.nil ?_
    have hev164 : ¬ (max 1 (longP (turnP (rowsP rows))) ≤ (((encPut (rowsP rows) s3 ((fewP l)[k])).2).wait.length : Int)) := by omega
    refine CW.condP rfl (fun hn => absurd hn hev164) (fun _ => ?_)
    refine CW.skip ?_
    refine CW.region ?_
    refine WL.add rfl rfl (by omega) ?_
    refine WL.move rfl ?_
    refine WL.nil ?_
    have h165 := DecO.step h148 he151 (fun _ _ h => h) u152 mem147
    have h166 := DecO.step h165 he160 (fun _ _ h => h) u161 mem147
    have h167 := EncR.step h157 he160 (fun _ _ h => h) u161 mem156
    refine Loop.again _ _ ?_ ?_ ⟨k + 1, (matchPut (rowsP rows) s2 (fewP l)[k]).2, (encPut (rowsP rows) s3 (fewP l)[k]).2, S106, S127, M126, rfl, rfl, (Up.trans hU68 (Up.trans (PutR.up hP107) (Up.trans (PutR.up hP128) (Up.trans u152 u161)))), e162, hs0136, hs0135, h166, h167, mem147, fr118, (Dj.symm dj137), mem156, fr140, by omega, by omega, by omega, by omega, by omega, he5⟩
    · omega
    · exact .cons (t := 7) rfl (.cons (t := 8) rfl (.cons (t := 9) rfl (.cons (t := 10) rfl (.cons (t := 43) rfl (.cons (t := 44) rfl (.cons (t := 45) rfl (.nil _)))))))
  · refine CW.exit ?_
    refine CW.seq ?_
    refine CW.region ?_
    refine WL.assign rfl ?_
    refine WL.nil ?_
    refine CW.ret ?_
    refine Ret.one rfl rfl ?_
    exact ⟨rfl, hE69⟩
end Go.Proofs.Ytgbajkdomcmblaa
