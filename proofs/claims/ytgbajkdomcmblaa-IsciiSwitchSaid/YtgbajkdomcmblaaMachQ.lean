/- What the laws' Encode comes to: a walk. -/
import Derived.Test.YtgbajkdomcmblaaMachO
namespace Go.Proofs.Ytgbajkdomcmblaa
open Go Go.RowKit Vc
set_option linter.unusedVariables false
set_option linter.unusedSimpArgs false
private theorem mixed : Try.prog.follows .mixedOrders = true := by kernel_rfl
private theorem fo58_0 : fieldOff Try.prog 58 0 = some 0 := by kernel_rfl
private theorem fo58_1 : fieldOff Try.prog 58 1 = some 1 := by kernel_rfl
private theorem fo58_2 : fieldOff Try.prog 58 2 = some 2 := by kernel_rfl
private theorem fo58_3 : fieldOff Try.prog 58 3 = some 3 := by kernel_rfl
private theorem es55 : elemSize Try.prog 55 = some 4 := by kernel_rfl
private theorem sc3 : scalar Try.prog 3 = true := by kernel_rfl
private theorem sc29 : scalar Try.prog 29 = true := by kernel_rfl
private theorem sc46 : scalar Try.prog 46 = true := by kernel_rfl
private theorem ag58 : aggSize Try.prog 58 = some 4 := by kernel_rfl
private theorem ti58 : tinfo Try.prog 58 = some (some (.agg #[.int .i64 0, .int .i64 0, .slice none 0 0, .int .i64 0]), 4, 48) := by kernel_rfl
theorem batch_facts {rs : List PRule} (hg : GoodR rs) (us : List Int) (a : Int) : (batchP rs us a).length ≤ us.length ∧ ∀ x ∈ batchP rs us a, x.out.length ≤ 8 := by
  have h1 := take_end hg.right _ us a (Nat.le_refl _)
  have h2 := take_wait hg.right true _ us a (Nat.le_refl _)
  have h3 := EncR.take_outs hg true _ us a (Nat.le_refl _)
  rw [h1] at h2 h3
  exact ⟨h2.2.2.2.2, h3⟩
theorem mid_next {α : Type} {pre ts : List α} {k : Nat} (hp : pre.length = k) (hk : k < ts.length) : pre ++ ts.drop k = (pre ++ [ts[k]]) ++ ts.drop (k + 1) := by
  rw [List.drop_eq_getElem_cons hk]
  simp only [List.append_assoc, List.cons_append, List.nil_append]

theorem lawEncode_spec (w : World) (M : MS) (hm : MB w M) {Ap1 : Option Addr} {cp1 : Nat} {rs : List PRule} (h1 : SlD RuleR 2 w M Ap1 cp1 rs) {Ap2 : Option Addr} {cp2 : Nat} {us : List Int} (h2 : SlD IntR 1 w M Ap2 cp2 us) (hg : GoodR rs) (hul : us.length ≤ 100000) :
    Fc Try.prog 36 #[.slice Ap1 rs.length cp1, .slice Ap2 us.length cp2] w fun v w' => ∃ M', NewR TokR 4 58 w M w' M' v (joinP rs [] (batchP (turnP rs) us 0)).1 := by
  have e0 := Stp.refl w (NoM : MS)
  have hs00 : Ms M M := fun _ h => h
  have hlim := h1.lim
  have hlim2 := h2.lim
  obtain ⟨hbl, hbo⟩ := batch_facts hg.turn us 0
  refine Fc.enter (n := 40) [(0, .slice Ap1 rs.length cp1), (1, .slice Ap2 us.length cp2)] Try.func36 rfl rfl (Nat.le_of_ble_eq_true rfl) (.cons rfl (.cons rfl (.nil _))) ?_
  refine CW.seq ?_
  refine CW.region ?_
  refine WL.assign rfl ?_
  refine WL.nil ?_
  refine CW.seq ?_
  refine CW.region ?_
  refine WL.move rfl ?_
  refine WL.call Try.func64 rfl rfl (.cons rfl (.nil)) (Turn_spec _ _ hm h1 hg.len (fun r hr => by have h2 := hg.mem hr; omega)) (fun _ w4 hr5 => ?_)
  obtain ⟨⟨A1, c2, rfl, hD3⟩, he6⟩ := hr5
  have u7 := Ext.up he6 hm
  have e8 := Stp.ext e0 he6
  have hm9 := Up.mb u7
  refine WL.move rfl ?_
  refine WL.call Try.func35 rfl rfl (.cons rfl (.cons rfl (.nil))) (lawAll_spec _ _ hm9 hD3 (h2.up u7) hg.turn (by omega)) (fun _ w10 hr11 => ?_)
  obtain ⟨M12, hP13⟩ := hr11
  obtain ⟨A14, c15, rfl⟩ := Own.form hP13.own
  have e16 := Stp.ext e8 (NewR.ext hP13)
  have hm17 := Up.mb (NewR.up hP13)
  have hs018 : Ms M M12 := fun k h => (NewR.ms hP13) k (hs00 k h)
  have fr19 := Ge.le (NewR.new hP13) (Stp.size e8)
  refine WL.assign rfl ?_
  refine WL.nil ?_
  refine CW.seq ?_
  refine CW.region ?_
  refine WL.assign rfl ?_
  refine WL.nil ?_
  refine CW.seq ?_
  refine CW.seq ?_
  refine CW.region ?_
  refine WL.move rfl ?_
  refine WL.len Try.underlying55 rfl ?_
  refine WL.move rfl ?_
  refine WL.nil ?_
  refine CW.block ?_
  refine CW.loop (fun m σ wr0 => ∃ k : Nat, ∃ pre : List PTok, ∃ ah : List Int, ∃ Aa : Option Addr, ∃ ca : Nat, ∃ Mr20 : MS, m = (batchP (turnP rs) us 0).length - k ∧ σ = [(0, .slice Ap1 rs.length cp1), (5, .slice A14 ((batchP (turnP rs) us 0).length) c15), (6, .slice Aa ah.length ca), (13, .slice A14 ((batchP (turnP rs) us 0).length) c15), (14, .int .i64 ((batchP (turnP rs) us 0).length : Int)), (15, .int .i64 (k : Int))] ∧ (Up w10 M12 wr0 Mr20) ∧ (Stp w wr0 NoM) ∧ (Ms M12 Mr20) ∧ (Ms M Mr20) ∧ (Own TokR 4 58 wr0 Mr20 0 (.slice A14 ((batchP (turnP rs) us 0).length) c15) (pre ++ (batchP (turnP rs) us 0).drop k)) ∧ (k ≤ (batchP (turnP rs) us 0).length) ∧ (joinP rs [] ((batchP (turnP rs) us 0).take k) = (pre, ah)) ∧ (ah.length ≤ 8) ∧ (SlD IntR 1 wr0 Mr20 Aa ca ah)) _ _ (.cons (t := 0) rfl (.cons (t := 5) rfl (.cons (t := 6) rfl (.cons (t := 13) rfl (.cons (t := 14) rfl (.cons (t := 15) rfl (.nil _))))))) ⟨0, [], [], none, 0, M12, rfl, rfl, Up.refl hm17, e16, fun _ h => h, hs018, (NewR.own hP13), by omega, rfl, by simp, SlD.empty (fun _ => rfl)⟩ ?_
  rintro m _ wr0 ⟨k, pre, ah, Aa, ca, Mr20, rfl, rfl, hU21, hE22, hsp24, hsb25, h26, hk, hj, hla, hah⟩
  have hm23 := Up.mb hU21
  have mem27 : Ms (ob (.slice A14 (batchP (turnP rs) us 0).length c15)) Mr20 := (fun k h => hsp24 k ((Own.ms (NewR.own hP13)) k h))
  have hlen28 := Own.len h26
  have hpl : pre.length = k := by have := join_len rs ((batchP (turnP rs) us 0).take k) []; rw [hj] at this; simp at this; omega
  refine CW.seq ?_
  refine CW.region ?_
  refine WL.lss rfl rfl ?_
  refine WL.nil ?_
  refine CW.seq ?_
  refine CW.condP rfl (fun hc29 => ?_) (fun hc29 => ?_)
  · have hkl : k < (batchP (turnP rs) us 0).length := by omega
    have hxo := hbo _ (List.getElem_mem hkl)
    refine CW.skip ?_
    refine CW.seq ?_
    refine CW.block ?_
    refine CW.seq ?_
    refine CW.region ?_
    refine WL.move rfl ?_
    have hlt30 : k < (pre ++ (batchP (turnP rs) us 0).drop k).length := by first | omega | (simp only [List.length_append, List.length_set, List.length_drop]; omega)
    obtain ⟨ad31, cs32, hA33, hs34, hat35, hR36⟩ := Own.get h26 hlt30
    rw [show (pre ++ (batchP (turnP rs) us 0).drop k)[k] = (batchP (turnP rs) us 0)[k] from get_mid hpl hkl _] at hR36
    obtain ⟨_, hx39, ⟨A37, c38, rfl, hD40⟩, hi41, hi42, hi43⟩ := hR36
    rw [hx39] at hat35
    have hl44 := SlD.lim hD40
    simp only [I64] at hi41 hi42 hi43
    refine WL.idx es55 rfl rfl hA33 (by omega) (by omega) ?_
    refine WL.loadAgg (M := fun _ => False) (cs := [.int .i64 ((batchP (turnP rs) us 0)[k].at_), .int .i64 ((batchP (turnP rs) us 0)[k].len), .slice A37 ((batchP (turnP rs) us 0)[k].out.length) c38, .int .i64 ((batchP (turnP rs) us 0)[k].err)]) ag58 rfl hat35 ?_
    refine WL.alloc (cs := [.int .i64 0, .int .i64 0, .slice none 0 0, .int .i64 0]) ti58 rfl (fun g45 w46 hg47 hb48 he49 => ?_)
    obtain ⟨M50, u51, mem52, hsub53, hinv54⟩ := Ext.addVar he49 hm23 hg47 hb48
    have ge55 : ∀ q_, vb g45 q_ → wr0.heap.size ≤ q_ := fun q_ hq_ => by rw [hq_]; exact hg47
    have mem56 := Ms.one mem52
    have e57 := Stp.ext hE22 he49
    have hm58 := Up.mb u51
    have hs059 : Ms M M50 := fun k h => hsub53 k (hsb25 k h)
    have hs060 : Ms M12 M50 := fun k h => hsub53 k (hsp24 k h)
    have dj61 := Dj.fresh (T := (ob (.slice A14 (batchP (turnP rs) us 0).length c15))) ge55 mem27 hm23
    have fr62 := Ge.le ge55 (Stp.size hE22)
    refine WL.assign rfl ?_
    refine WL.storeAll (vs := [.int .i64 ((batchP (turnP rs) us 0)[k].at_), .int .i64 ((batchP (turnP rs) us 0)[k].len), .slice A37 ((batchP (turnP rs) us 0)[k].out.length) c38, .int .i64 ((batchP (turnP rs) us 0)[k].err)]) (by rw [ti58]; rfl) rfl rfl (by simp [Value.oneCell']) hb48 rfl (fun w63 hb64 hs65 => ?_)
    have u66 := Stp.upM hs65 hm58 mem56
    have e67 := Stp.wr e57 hs65 (Wr.ofFr NoM fr62)
    have hm68 := Up.mb u66
    refine WL.nil ?_
    refine CW.seq ?_
    refine CW.seq ?_
    refine CW.region ?_
    refine WL.fieldAddr fo58_3 rfl ?_
    refine WL.load sc46 rfl ((Bk.at_ (M := fun _ => False) hb64 (fun h => h)).cell 3 _ rfl) ?_
    refine WL.neq rfl rfl ?_
    refine WL.nil ?_
    refine CW.condP rfl (fun hc69 => ?_) (fun hc69 => ?_)
    · refine CW.exit ?_
      refine CW.region ?_
      refine WL.add rfl rfl (by omega) ?_
      refine WL.move rfl ?_
      refine WL.nil ?_
      have hjt : joinTok rs ah (batchP (turnP rs) us 0)[k] = (batchP (turnP rs) us 0)[k] := by simp [joinTok, hc69]
      have hja : joinAhead rs ah (batchP (turnP rs) us 0)[k] = ah := by unfold joinAhead; rw [hjt]; exact if_neg hc69
      have hpl2 : (pre ++ [(batchP (turnP rs) us 0)[k]]).length = k + 1 := by simp; omega
      have h70 := Own.ext h26 he49 u51 hsub53
      have mem71 : Ms (ob (.slice A14 (batchP (turnP rs) us 0).length c15)) M50 := (fun k h => hsub53 k (mem27 k h))
      have h72 := Own.step h70 hs65 (Dj.symm dj61) u66 mem71
      refine Loop.again _ _ ?_ ?_ ⟨k + 1, pre ++ [(batchP (turnP rs) us 0)[k]], ah, Aa, ca, M50, rfl, rfl, (Up.trans hU21 (Up.trans u51 u66)), e67, hs060, hs059, by rw [← mid_next hpl hkl]; exact h72, by omega, by rw [join_take_succ rs [] hkl, hj, hja, hjt], by omega, (hah.up (Up.trans u51 u66))⟩
      · omega
      · exact .cons (t := 0) rfl (.cons (t := 5) rfl (.cons (t := 6) rfl (.cons (t := 13) rfl (.cons (t := 14) rfl (.cons (t := 15) rfl (.nil _))))))
    · have hz73 : (batchP (turnP rs) us 0)[k].err = 0 := Classical.not_not.1 hc69
      refine CW.skip ?_
      refine CW.seq ?_
      refine CW.seq ?_
      refine CW.region ?_
      refine WL.move rfl ?_
      refine WL.move rfl ?_
      refine WL.fieldAddr fo58_2 rfl ?_
      refine WL.load sc29 rfl ((Bk.at_ (M := fun _ => False) hb64 (fun h => h)).cell 2 _ rfl) ?_
      refine WL.call Try.func38 rfl rfl (.cons rfl (.cons rfl (.cons rfl (.nil)))) (lawJoins_spec _ _ hm68 (h1.up (Up.trans u7 (Up.trans (NewR.up hP13) (Up.trans hU21 (Up.trans u51 u66))))) (hah.up (Up.trans u51 u66)) (hD40.up (Up.trans u51 u66)) hg.right (by omega) (by omega)) (fun _ w74 hr75 => ?_)
      obtain ⟨rfl, he76⟩ := hr75
      have u77 := Ext.up he76 hm68
      have e78 := Stp.ext e67 he76
      have hm79 := Up.mb u77
      refine WL.nil ?_
      refine CW.condB rfl (fun hc80 => ?_) (fun hc80 => ?_)
      · refine CW.seq ?_
        refine CW.region ?_
        refine WL.move rfl ?_
        refine WL.move rfl ?_
        refine WL.fieldAddr fo58_0 rfl ?_
        have h81 := Bk.ext hb64 he76
        refine WL.load sc3 rfl ((Bk.at_ (M := fun _ => False) h81 (fun h => h)).cell 0 _ rfl) ?_
        refine WL.fieldAddr fo58_1 rfl ?_
        refine WL.load sc3 rfl ((Bk.at_ (M := fun _ => False) h81 (fun h => h)).cell 1 _ rfl) ?_
        refine WL.buildP (cs := #[.int .i64 ((batchP (turnP rs) us 0)[k].at_), .int .i64 ((batchP (turnP rs) us 0)[k].len), .slice none 0 0, .int .i64 3]) (.cons rfl (.cons rfl (.cons rfl (.nil)))) (by kernel_rfl) ?_
        have hlt82 : k < (pre ++ (batchP (turnP rs) us 0).drop k).length := by first | omega | (simp only [List.length_append, List.length_set, List.length_drop]; omega)
        have h89 := Own.ext h26 he49 u51 hsub53
        have mem90 : Ms (ob (.slice A14 (batchP (turnP rs) us 0).length c15)) M50 := (fun k h => hsub53 k (mem27 k h))
        have h91 := Own.step h89 hs65 (Dj.symm dj61) u66 mem90
        have h92 := Own.ext h91 he76 u77 (fun _ h => h)
        obtain ⟨ad83, cs84, hA85, hs86, hat87, hR88⟩ := Own.get h92 hlt82
        rw [show (pre ++ (batchP (turnP rs) us 0).drop k)[k] = (batchP (turnP rs) us 0)[k] from get_mid hpl hkl _] at hR88
        obtain ⟨_, hx95, ⟨A93, c94, rfl, hD96⟩, hi97, hi98, hi99⟩ := hR88
        rw [hx95] at hat87
        have hl100 := SlD.lim hD96
        simp only [I64] at hi97 hi98 hi99
        refine WL.idx es55 rfl rfl hA85 (by omega) (by omega) ?_
        refine WL.storeOwnAll (us := [.int .i64 ((batchP (turnP rs) us 0)[k].at_), .int .i64 ((batchP (turnP rs) us 0)[k].len), .slice none 0 0, .int .i64 3]) (x' := (⟨(batchP (turnP rs) us 0)[k].at_, (batchP (turnP rs) us 0)[k].len, [], 3⟩ : PTok)) h92 hA85 hm79 hlt82 rfl (by decide) (by rw [ti58]; rfl) rfl rfl (by simp [Value.oneCell']) ⟨_, rfl, Sl.nil, by simp only [I64]; omega, by simp only [I64]; omega, by show I64 3; decide⟩ (fun w101 hO102 hs103 u104 => ?_)
        have e105 := Stp.wr e78 hs103 (Wr.ofFr NoM fr19)
        have hm106 := Up.mb u104
        refine WL.nil ?_
        refine CW.exit ?_
        refine CW.region ?_
        refine WL.add rfl rfl (by omega) ?_
        refine WL.move rfl ?_
        refine WL.nil ?_
        have hjt : joinTok rs ah (batchP (turnP rs) us 0)[k] = (⟨(batchP (turnP rs) us 0)[k].at_, (batchP (turnP rs) us 0)[k].len, [], 3⟩ : PTok) := by simp [joinTok, hz73, hc80]
        have hja : joinAhead rs ah (batchP (turnP rs) us 0)[k] = ah := by unfold joinAhead; rw [hjt]; simp
        have hpl2 : (pre ++ [(⟨(batchP (turnP rs) us 0)[k].at_, (batchP (turnP rs) us 0)[k].len, [], 3⟩ : PTok)]).length = k + 1 := by simp; omega
        refine Loop.again _ _ ?_ ?_ ⟨k + 1, pre ++ [(⟨(batchP (turnP rs) us 0)[k].at_, (batchP (turnP rs) us 0)[k].len, [], 3⟩ : PTok)], ah, Aa, ca, M50, rfl, rfl, (Up.trans hU21 (Up.trans u51 (Up.trans u66 (Up.trans u77 u104)))), e105, hs060, hs059, by rw [← set_mid hpl hkl]; exact hO102, by omega, by rw [join_take_succ rs [] hkl, hj, hja, hjt], by omega, (hah.up (Up.trans u51 (Up.trans u66 (Up.trans u77 u104))))⟩
        · omega
        · exact .cons (t := 0) rfl (.cons (t := 5) rfl (.cons (t := 6) rfl (.cons (t := 13) rfl (.cons (t := 14) rfl (.cons (t := 15) rfl (.nil _))))))
      · refine CW.skip ?_
        refine CW.region ?_
        refine WL.fieldAddr fo58_2 rfl ?_
        have h107 := Bk.ext hb64 he76
        refine WL.load sc29 rfl ((Bk.at_ (M := fun _ => False) h107 (fun h => h)).cell 2 _ rfl) ?_
        refine WL.assign rfl ?_
        refine WL.nil ?_
        refine CW.region ?_
        refine WL.add rfl rfl (by omega) ?_
        refine WL.move rfl ?_
        refine WL.nil ?_
        have hjt : joinTok rs ah (batchP (turnP rs) us 0)[k] = (batchP (turnP rs) us 0)[k] := by simp [joinTok, hz73, hc80]
        have hja : joinAhead rs ah (batchP (turnP rs) us 0)[k] = (batchP (turnP rs) us 0)[k].out := by unfold joinAhead; rw [hjt]; exact if_pos hz73
        have hpl2 : (pre ++ [(batchP (turnP rs) us 0)[k]]).length = k + 1 := by simp; omega
        have h108 := Own.ext h26 he49 u51 hsub53
        have mem109 : Ms (ob (.slice A14 (batchP (turnP rs) us 0).length c15)) M50 := (fun k h => hsub53 k (mem27 k h))
        have h110 := Own.step h108 hs65 (Dj.symm dj61) u66 mem109
        have h111 := Own.ext h110 he76 u77 (fun _ h => h)
        refine Loop.again _ _ ?_ ?_ ⟨k + 1, pre ++ [(batchP (turnP rs) us 0)[k]], (batchP (turnP rs) us 0)[k].out, A37, c38, M50, rfl, rfl, (Up.trans hU21 (Up.trans u51 (Up.trans u66 u77))), e78, hs060, hs059, by rw [← mid_next hpl hkl]; exact h111, by omega, by rw [join_take_succ rs [] hkl, hj, hja, hjt], by omega, (hD40.up (Up.trans u51 (Up.trans u66 u77)))⟩
        · omega
        · exact .cons (t := 0) rfl (.cons (t := 5) rfl (.cons (t := 6) rfl (.cons (t := 13) rfl (.cons (t := 14) rfl (.cons (t := 15) rfl (.nil _))))))
  · have hke : k = (batchP (turnP rs) us 0).length := by omega
    refine CW.exit ?_
    refine CW.seq ?_
    refine CW.region ?_
    refine WL.move rfl ?_
    refine WL.assign rfl ?_
    refine WL.nil ?_
    refine CW.ret ?_
    refine Ret.one rfl rfl ?_
    have hfin : joinP rs [] (batchP (turnP rs) us 0) = (pre, ah) := by rw [← hj, hke, List.take_length]
    have hxe : pre ++ (batchP (turnP rs) us 0).drop k = pre := by rw [hke, List.drop_length, List.append_nil]
    rw [hfin]
    exact ⟨_, ⟨hxe ▸ h26, fr19, (Up.trans u7 (Up.trans (NewR.up hP13) hU21)), hsb25, hE22⟩⟩
end Go.Proofs.Ytgbajkdomcmblaa
