/- The law IsciiBack answers true: a walk. -/
import Derived.Test.YtgbajkdomcmblaaIscK
namespace Go.Proofs.Ytgbajkdomcmblaa
open Go Go.RowKit Vc
set_option linter.unusedVariables false
set_option linter.unusedSimpArgs false
private theorem mixed : Try.prog.follows .mixedOrders = true := by kernel_rfl
private theorem fo58_2 : fieldOff Try.prog 58 2 = some 2 := by kernel_rfl
private theorem fo58_3 : fieldOff Try.prog 58 3 = some 3 := by kernel_rfl
private theorem es29 : elemSize Try.prog 29 = some 1 := by kernel_rfl
private theorem es55 : elemSize Try.prog 55 = some 4 := by kernel_rfl
private theorem sc3 : scalar Try.prog 3 = true := by kernel_rfl
private theorem sc29 : scalar Try.prog 29 = true := by kernel_rfl
private theorem sc46 : scalar Try.prog 46 = true := by kernel_rfl
private theorem ag58 : aggSize Try.prog 58 = some 4 := by kernel_rfl
private theorem ti3 : tinfo Try.prog 3 = some (some (.int .i64 0), 1, 8) := by kernel_rfl
private theorem ti58 : tinfo Try.prog 58 = some (some (.agg #[.int .i64 0, .int .i64 0, .slice none 0 0, .int .i64 0]), 4, 48) := by kernel_rfl
theorem lawEnc_facts (l : List Int) : (lawEnc l).ou.length ≤ 2 * l.length ∧ ∀ x ∈ (lawEnc l).ou, x.out.length ≤ 8 := by
  obtain ⟨f1, f2, f3, f4, f5, f6⟩ := lrun_facts l
  have hq : lawEnc l = restP (lrun l 0 l0) := rfl
  rw [hq]
  generalize lrun l 0 l0 = q at *
  have h1 := encP_len q.us
  simp only [restP]
  refine ⟨by rw [List.length_append, List.length_map]; omega, ?_⟩
  intro x hx
  rw [List.mem_append, List.mem_map] at hx
  rcases hx with hx | ⟨y, hy, rfl⟩
  · exact f6 x hx
  · exact join_outs indR 8 _ _ (batch_facts indR_good.turn q.us 0).2 y hy

theorem iback_walk (w : World) (M : MS) (hm : MB w M) {Ap1 : Option Addr} {cp1 : Nat} {l : List Int} (h1 : SlD ByteR 1 w M Ap1 cp1 l) :
    Fc Try.prog 12 #[.slice Ap1 l.length cp1] w fun v w' => v = .bool true ∧ Ext w w' := by
  have e0 := Stp.refl w (NoM : MS)
  have hs00 : Ms M M := fun _ h => h
  have hlim := h1.lim
  have hbl := scl_len l
  refine Fc.enter (n := 97) [(0, .slice Ap1 l.length cp1)] Try.func12 rfl rfl (Nat.le_of_ble_eq_true rfl) (.cons rfl (.nil _)) ?_
  refine CW.seq ?_
  refine CW.region ?_
  refine WL.assign rfl ?_
  refine WL.nil ?_
  refine CW.seq ?_
  refine CW.seq ?_
  refine CW.region ?_
  refine WL.call Try.func40 rfl rfl (.nil) (iawake_spec _ _ hm) (fun _ w1 hr2 => ?_)
  obtain ⟨rfl, he3⟩ := hr2
  have u4 := Ext.up he3 hm
  have e5 := Stp.ext e0 he3
  have hm6 := Up.mb u4
  refine WL.not_ rfl ?_
  refine WL.nil ?_
  refine CW.condF rfl ?_
  refine CW.skip ?_
  refine CW.seq ?_
  refine CW.region ?_
  refine WL.call Try.func41 rfl rfl (.nil) (iencode_spec _ _ hm6) (fun _ w7 hr8 => ?_)
  obtain ⟨g9, rfl, M10, S11, hI12, hnw13, hu14, hms15, he16⟩ := hr8
  have hI17 : IEncR g9 w7 M10 S11 enc0 := hI12
  have e18 := Stp.ext e5 he16
  have hm19 := Up.mb hu14
  have hs020 : Ms M M10 := fun k h => hms15 k (hs00 k h)
  have fr21 := Ge.le hnw13 (Stp.size e5)
  refine WL.call Try.func46 rfl rfl (.nil) (idecode_spec _ _ hm19) (fun _ w22 hr23 => ?_)
  obtain ⟨g24, rfl, M25, S26, hI27, hnw28, hu29, hms30, he31⟩ := hr23
  have hI32 : IDecR g24 w22 M25 S26 dec0 := hI27
  have e33 := Stp.ext e18 he31
  have hm34 := Up.mb hu29
  have hs035 : Ms M M25 := fun k h => hms30 k (hs020 k h)
  have dj36 := Dj.fresh (T := S11) hnw28 (IEncR.ms hI17) hm19
  have fr37 := Ge.le hnw28 (Stp.size e18)
  refine WL.assign rfl ?_
  refine WL.assign rfl ?_
  refine WL.nil ?_
  refine CW.seq ?_
  refine CW.seq ?_
  refine CW.region ?_
  refine WL.move rfl ?_
  refine WL.rn (Rn.pnil Try.underlying72 rfl) ?_
  refine WL.move rfl ?_
  refine WL.gtake rfl rfl rfl ?_
  refine WL.move rfl ?_
  refine WL.gtake rfl rfl rfl ?_
  refine WL.rn (Rn.pnil Try.underlying77 rfl) ?_
  refine WL.pickF rfl rfl ?_
  refine WL.nil ?_
  refine CW.condF rfl ?_
  refine CW.skip ?_
  refine CW.seq ?_
  refine CW.region ?_
  refine WL.assign rfl ?_
  refine WL.nil ?_
  refine CW.seq ?_
  refine CW.seq ?_
  refine CW.region ?_
  refine WL.move rfl ?_
  refine WL.call Try.func47 rfl rfl (.cons rfl (.nil)) (scalars_spec _ _ hm34 (h1.up (Up.trans u4 (Up.trans hu14 hu29)))) (fun _ w38 hr39 => ?_)
  obtain ⟨M40, hP41⟩ := hr39
  obtain ⟨A42, c43, rfl⟩ := Own.form hP41.own
  have e44 := Stp.ext e33 (NewR.ext hP41)
  have hm45 := Up.mb (NewR.up hP41)
  have hs046 : Ms M M40 := fun k h => (NewR.ms hP41) k (hs035 k h)
  have mem48 : Ms S11 M25 := (fun k h => hms30 k ((IEncR.ms hI17) k h))
  have dj47 := Dj.fresh (T := S11) (NewR.new hP41) mem48 hm34
  have dj49 := Dj.fresh (T := S26) (NewR.new hP41) (IDecR.ms hI32) hm34
  have fr50 := Ge.le (NewR.new hP41) (Stp.size e33)
  refine WL.len Try.underlying29 rfl ?_
  refine WL.move rfl ?_
  refine WL.nil ?_
  refine CW.block ?_
  have hO51 : Own TokR 4 58 w38 M40 0 (.slice none 0 0) [] := Own.nil
  have dj52 : Dj (ob (.slice none 0 0)) S11 := Dj.nil _
  have dj53 : Dj (ob (.slice none 0 0)) S26 := Dj.nil _
  have dj54 : Dj (ob (.slice none 0 0)) (ob (.slice A42 (sclP l).length c43)) := Dj.nil _
  have h62 := IEncR.step hI17 he31 (fun _ _ h => h) hu29 mem48
  have mem63 : Ms S11 M40 := (fun k h => (NewR.ms hP41) k (mem48 k h))
  have h64 := IEncR.step h62 (NewR.ext hP41) (fun _ _ h => h) (NewR.up hP41) mem63
  have mem66 : Ms S26 M40 := (fun k h => (NewR.ms hP41) k ((IDecR.ms hI32) k h))
  have h67 := IDecR.step hI32 (NewR.ext hP41) (fun _ _ h => h) (NewR.up hP41) mem66
  refine CW.loop (fun m σ wr0 => ∃ j : Nat, ∃ s1 : IEnc, ∃ T1 : List PTok, ∃ Se : MS, ∃ Mr55 : MS, ∃ A70 : Option Addr, ∃ n71 : Nat, ∃ c72 : Nat, m = (sclP l).length - j ∧ σ = [(0, .slice Ap1 l.length cp1), (3, .pointer (some ⟨g9, 0, none⟩)), (4, .pointer (some ⟨g24, 0, none⟩)), (5, .slice A70 n71 c72), (28, .slice A42 ((sclP l).length) c43), (29, .int .i64 ((sclP l).length : Int)), (30, .int .i64 (j : Int))] ∧ (Up w38 M40 wr0 Mr55) ∧ (Stp w wr0 NoM) ∧ (Ms M40 Mr55) ∧ (Ms M Mr55) ∧ (IEncR g9 wr0 Mr55 Se s1) ∧ (IDecR g24 wr0 Mr55 S26 dec0) ∧ (Own IntR 1 3 wr0 Mr55 0 (.slice A42 ((sclP l).length) c43) (sclP l)) ∧ (Own TokR 4 58 wr0 Mr55 0 (.slice A70 n71 c72) (T1)) ∧ (Ms (Se) Mr55) ∧ (∀ q_, (Se) q_ → w.heap.size ≤ q_) ∧ (Dj (Se) (S26)) ∧ (Dj (Se) (ob (.slice A42 (sclP l).length c43))) ∧ (Dj (Se) (ob (.slice A70 n71 c72))) ∧ (Ms (ob (.slice A70 n71 c72)) Mr55) ∧ (∀ q_, (ob (.slice A70 n71 c72)) q_ → w.heap.size ≤ q_) ∧ (Dj (ob (.slice A70 n71 c72)) (S26)) ∧ (Dj (ob (.slice A70 n71 c72)) (ob (.slice A42 (sclP l).length c43))) ∧ (j ≤ (sclP l).length) ∧ (runP iencPut ((sclP l).take j) enc0 = (T1, s1))) _ _ (.cons (t := 0) rfl (.cons (t := 3) rfl (.cons (t := 4) rfl (.cons (t := 5) rfl (.cons (t := 28) rfl (.cons (t := 29) rfl (.cons (t := 30) rfl (.nil _)))))))) ⟨0, enc0, [], S11, M40, none, 0, 0, rfl, rfl, Up.refl hm45, e44, fun _ h => h, hs046, h64, h67, (NewR.own hP41), hO51, mem63, fr21, (Dj.symm dj36), (Dj.symm dj47), (Dj.symm dj52), (Ms.nil M40), (Fr.nil w.heap.size), dj53, dj54, by omega, rfl⟩ ?_
  rintro m _ wr0 ⟨j, s1, T1, Se, Mr55, A70, n71, c72, rfl, rfl, hU56, hE57, hsp59, hsb60, h61, h65, h68, h69, mem73, wr74, dj75, dj76, dj77, mem78, wr79, dj80, dj81, hj, hr1⟩
  have hm58 := Up.mb hU56
  have mem82 : Ms S26 Mr55 := (fun k h => hsp59 k (mem66 k h))
  have mem83 : Ms (ob (.slice A42 (sclP l).length c43)) Mr55 := (fun k h => hsp59 k ((Own.ms (NewR.own hP41)) k h))
  have hlen84 := Own.len h68
  obtain rfl := Own.n h69
  have hlen85 := Own.len h69
  have hf1 := ienc_facts hr1
  have htl : ((sclP l).take j).length = j := by rw [List.length_take]; omega
  refine CW.seq ?_
  refine CW.region ?_
  refine WL.lss rfl rfl ?_
  refine WL.nil ?_
  refine CW.seq ?_
  refine CW.condP rfl (fun hc86 => ?_) (fun hc86 => ?_)
  · have hjl : j < (sclP l).length := by omega
    have hE := ienc_put_facts hr1 (sclP l)[j] (by omega)
    refine CW.skip ?_
    refine CW.seq ?_
    refine CW.block ?_
    refine CW.seq ?_
    refine CW.region ?_
    have hlt87 : j < (sclP l).length := by omega
    obtain ⟨ad88, cs89, hA90, hs91, hat92, hR93⟩ := Own.get h68 hlt87
    rw [show _ = _ from hR93.1] at hat92
    have hhR93 := hR93.2; simp only [I64] at hhR93
    refine WL.idx es29 rfl rfl hA90 (by omega) (by omega) ?_
    refine WL.load sc3 rfl (At.cell hat92 0 _ rfl) ?_
    refine WL.assign rfl ?_
    refine WL.nil ?_
    refine CW.region ?_
    refine WL.move rfl ?_
    refine WL.move rfl ?_
    refine WL.move rfl ?_
    refine WL.call Try.func43 rfl rfl (.cons rfl (.cons rfl (.nil))) (iencPut_spec _ _ hm58 h61 (ienc_ok hr1 (by omega)) ((sclP l)[j]) (by simp only [I64]; omega)) (fun _ w94 hr95 => ?_)
    obtain ⟨M96, S97, hP98, hM99⟩ := hr95
    have hP102 : PutR wr0 Mr55 Se w94 M96 S97 _ ((iencPut s1 ((sclP l)[j])).1) := hP98
    obtain ⟨A100, c101, rfl⟩ := Own.form hP102.own
    have hM103 : IEncR g9 w94 M96 S97 (iencPut s1 ((sclP l)[j])).2 := hM99
    have e104 := Stp.wr hE57 (PutR.stp hP102) (Wr.ofFr NoM wr74)
    have hm105 := Up.mb (PutR.up hP102)
    have hs0106 : Ms M M96 := fun k h => (PutR.ms hP102) k (hsb60 k h)
    have hs0107 : Ms M40 M96 := fun k h => (PutR.ms hP102) k (hsp59 k h)
    have dj108 := Dj.grow dj75 (PutR.wr hP102) mem82 hm58
    have dj109 := Dj.grow dj76 (PutR.wr hP102) mem83 hm58
    have dj110 := Dj.grow dj77 (PutR.wr hP102) mem78 hm58
    have fr112 := Ge.grow wr74 (PutR.wr hP102) (Stp.size hE57)
    have dj113 := Dj.fresh (T := S26) (PutR.new hP102) mem82 hm58
    have dj114 := Dj.fresh (T := (ob (.slice A42 (sclP l).length c43))) (PutR.new hP102) mem83 hm58
    have dj115 := Dj.fresh (T := (ob (.slice A70 T1.length c72))) (PutR.new hP102) mem78 hm58
    have fr116 := Ge.le (PutR.new hP102) (Stp.size hE57)
    have mem126 : Ms (ob (.slice A70 T1.length c72)) M96 := (fun k h => (PutR.ms hP102) k (mem78 k h))
    have h127 := Own.step h69 (PutR.stp hP102) (Dj.symm dj77) (PutR.up hP102) mem126
    refine WL.appendR Try.underlying55 ti58 rfl (by decide) rfl rfl h127 (Own.atl (PutR.own hP102)) hm105 (by decide) (by first | omega | (simp; omega)) (fun A117 c118 w119 M120 hO121 hs122 u123 hsub124 hnew125 => ?_)
    have e128 := Stp.wr e104 hs122 (Wr.ofFr NoM wr79)
    have hm129 := Up.mb u123
    have hs0130 : Ms M M120 := fun k h => hsub124 k (hs0106 k h)
    have hs0131 : Ms M40 M120 := fun k h => hsub124 k (hs0107 k h)
    have dj132 := Dj.grow (Dj.symm dj110) hnew125 (IEncR.ms hM103) hm105
    have mem134 : Ms S26 M96 := (fun k h => (PutR.ms hP102) k (mem82 k h))
    have dj133 := Dj.grow dj80 hnew125 mem134 hm105
    have mem136 : Ms (ob (.slice A42 (sclP l).length c43)) M96 := (fun k h => (PutR.ms hP102) k (mem83 k h))
    have dj135 := Dj.grow dj81 hnew125 mem136 hm105
    have dj137 := Dj.grow (Dj.symm dj115) hnew125 (Own.ms (PutR.own hP102)) hm105
    have fr139 := Ge.grow wr79 hnew125 (Stp.size e104)
    refine WL.assign rfl ?_
    refine WL.nil ?_
    refine CW.region ?_
    refine WL.add rfl rfl (by omega) ?_
    refine WL.move rfl ?_
    refine WL.nil ?_
    have mem140 : Ms S97 M120 := (fun k h => hsub124 k ((IEncR.ms hM103) k h))
    have h141 := IEncR.step hM103 hs122 dj110 u123 mem140
    have h142 := IDecR.step h65 (PutR.stp hP102) (Dj.symm dj75) (PutR.up hP102) mem134
    have mem143 : Ms S26 M120 := (fun k h => hsub124 k (mem134 k h))
    have h144 := IDecR.step h142 hs122 (Dj.symm dj80) u123 mem143
    have h145 := Own.step h68 (PutR.stp hP102) (Dj.symm dj76) (PutR.up hP102) mem136
    have mem146 : Ms (ob (.slice A42 (sclP l).length c43)) M120 := (fun k h => hsub124 k (mem136 k h))
    have h147 := Own.step h145 hs122 (Dj.symm dj81) u123 mem146
    refine Loop.again _ _ ?_ ?_ ⟨j + 1, (iencPut s1 (sclP l)[j]).2, T1 ++ (iencPut s1 (sclP l)[j]).1, S97, M120, A117, (T1 ++ ((iencPut s1 ((sclP l)[j])).1)).length, c118, rfl, rfl, (Up.trans hU56 (Up.trans (PutR.up hP102) u123)), e128, hs0131, hs0130, h141, h144, h147, hO121, mem140, fr112, dj108, dj109, (Dj.symm dj132), (Own.ms hO121), fr139, dj133, dj135, by omega, run_take_succ _ hjl hr1⟩
    · omega
    · exact .cons (t := 0) rfl (.cons (t := 3) rfl (.cons (t := 4) rfl (.cons (t := 5) rfl (.cons (t := 28) rfl (.cons (t := 29) rfl (.cons (t := 30) rfl (.nil _)))))))
  · have hje : j = (sclP l).length := by omega
    have hrE : runP iencPut (sclP l) enc0 = (T1, s1) := by rw [← hr1, hje, List.take_length]
    have hF := ienc_fin_facts hrE (by omega)
    have hall : allP iencPut iencFin (sclP l) enc0 = ((T1 ++ (iencFin s1).1), (iencFin s1).2) := by simp only [allP, hrE]
    have hai := all_ienc (sclP l)
    rw [hall] at hai
    have hsame : (T1 ++ (iencFin s1).1) = (lawEnc (sclP l)).ou := hai.1
    have hscr : (iencFin s1).2.sc = (lawEnc (sclP l)).sc := hai.2.1
    have hpf := lawEnc_facts (sclP l)
    rw [← hsame] at hpf
    have hpl2 := hpf.1
    rw [List.length_append] at hpl2
    have hpo := hpf.2
    refine CW.exit ?_
    refine CW.seq ?_
    refine CW.region ?_
    refine WL.assign rfl ?_
    refine WL.nil ?_
    refine CW.seq ?_
    refine CW.seq ?_
    refine CW.region ?_
    refine WL.move rfl ?_
    refine WL.move rfl ?_
    refine WL.call Try.func44 rfl rfl (.cons rfl (.nil)) (iencEnd_spec _ _ hm58 h61 (n := 0) (ienc_ok hrE (by omega)).1) (fun _ w148 hr149 => ?_)
    obtain ⟨M150, S151, hP152, hM153⟩ := hr149
    have hP156 : PutR wr0 Mr55 Se w148 M150 S151 _ ((iencFin s1).1) := hP152
    obtain ⟨A154, c155, rfl⟩ := Own.form hP156.own
    have hM157 : IEncR g9 w148 M150 S151 (iencFin s1).2 := hM153
    have e158 := Stp.wr hE57 (PutR.stp hP156) (Wr.ofFr NoM wr74)
    have hm159 := Up.mb (PutR.up hP156)
    have hs0160 : Ms M M150 := fun k h => (PutR.ms hP156) k (hsb60 k h)
    have dj161 := Dj.grow dj75 (PutR.wr hP156) mem82 hm58
    have dj162 := Dj.grow dj76 (PutR.wr hP156) mem83 hm58
    have dj163 := Dj.grow dj77 (PutR.wr hP156) mem78 hm58
    have fr165 := Ge.grow wr74 (PutR.wr hP156) (Stp.size hE57)
    have dj166 := Dj.fresh (T := S26) (PutR.new hP156) mem82 hm58
    have dj167 := Dj.fresh (T := (ob (.slice A42 (sclP l).length c43))) (PutR.new hP156) mem83 hm58
    have dj168 := Dj.fresh (T := (ob (.slice A70 T1.length c72))) (PutR.new hP156) mem78 hm58
    have fr169 := Ge.le (PutR.new hP156) (Stp.size hE57)
    have mem179 : Ms (ob (.slice A70 T1.length c72)) M150 := (fun k h => (PutR.ms hP156) k (mem78 k h))
    have h180 := Own.step h69 (PutR.stp hP156) (Dj.symm dj77) (PutR.up hP156) mem179
    refine WL.appendR Try.underlying55 ti58 rfl (by decide) rfl rfl h180 (Own.atl (PutR.own hP156)) hm159 (by decide) (by first | omega | (simp; omega)) (fun A170 c171 w172 M173 hO174 hs175 u176 hsub177 hnew178 => ?_)
    have e181 := Stp.wr e158 hs175 (Wr.ofFr NoM wr79)
    have hm182 := Up.mb u176
    have hs0183 : Ms M M173 := fun k h => hsub177 k (hs0160 k h)
    have dj184 := Dj.grow (Dj.symm dj163) hnew178 (IEncR.ms hM157) hm159
    have mem186 : Ms S26 M150 := (fun k h => (PutR.ms hP156) k (mem82 k h))
    have dj185 := Dj.grow dj80 hnew178 mem186 hm159
    have mem188 : Ms (ob (.slice A42 (sclP l).length c43)) M150 := (fun k h => (PutR.ms hP156) k (mem83 k h))
    have dj187 := Dj.grow dj81 hnew178 mem188 hm159
    have dj189 := Dj.grow (Dj.symm dj168) hnew178 (Own.ms (PutR.own hP156)) hm159
    have fr191 := Ge.grow wr79 hnew178 (Stp.size e158)
    refine WL.len Try.underlying55 rfl ?_
    refine WL.move rfl ?_
    refine WL.nil ?_
    refine CW.block ?_
    have hO192 : Own IntR 1 3 w172 M173 0 (.slice none 0 0) [] := Own.nil
    have dj193 : Dj (ob (.slice none 0 0)) S151 := Dj.nil _
    have dj194 : Dj (ob (.slice none 0 0)) S26 := Dj.nil _
    have dj195 : Dj (ob (.slice none 0 0)) (ob (.slice A42 (sclP l).length c43)) := Dj.nil _
    have dj196 : Dj (ob (.slice none 0 0)) (ob (.slice A170 (T1 ++ ((iencFin s1).1)).length c171)) := Dj.nil _
    have mem204 : Ms S151 M173 := (fun k h => hsub177 k ((IEncR.ms hM157) k h))
    have h205 := IEncR.step hM157 hs175 dj163 u176 mem204
    have h207 := IDecR.step h65 (PutR.stp hP156) (Dj.symm dj75) (PutR.up hP156) mem186
    have mem208 : Ms S26 M173 := (fun k h => hsub177 k (mem186 k h))
    have h209 := IDecR.step h207 hs175 (Dj.symm dj80) u176 mem208
    have h211 := Own.step h68 (PutR.stp hP156) (Dj.symm dj76) (PutR.up hP156) mem188
    have mem212 : Ms (ob (.slice A42 (sclP l).length c43)) M173 := (fun k h => hsub177 k (mem188 k h))
    have h213 := Own.step h211 hs175 (Dj.symm dj81) u176 mem212
    refine CW.loop (fun m σ wr1 => ∃ i : Nat, ∃ s2 : IDec, ∃ T2 : List PTok, ∃ Sg : MS, ∃ ou : List Int, ∃ Mr197 : MS, ∃ A216 : Option Addr, ∃ n217 : Nat, ∃ c218 : Nat, m = (T1 ++ (iencFin s1).1).length - i ∧ σ = [(0, .slice Ap1 l.length cp1), (3, .pointer (some ⟨g9, 0, none⟩)), (4, .pointer (some ⟨g24, 0, none⟩)), (8, .slice A216 n217 c218), (43, .slice A170 ((T1 ++ ((iencFin s1).1)).length) c171), (44, .int .i64 ((T1 ++ ((iencFin s1).1)).length : Int)), (45, .int .i64 (i : Int))] ∧ (Up w172 M173 wr1 Mr197) ∧ (Stp w wr1 NoM) ∧ (Ms M173 Mr197) ∧ (Ms M Mr197) ∧ (IEncR g9 wr1 Mr197 S151 (iencFin s1).2) ∧ (IDecR g24 wr1 Mr197 Sg s2) ∧ (Own IntR 1 3 wr1 Mr197 0 (.slice A42 ((sclP l).length) c43) (sclP l)) ∧ (Own TokR 4 58 wr1 Mr197 0 (.slice A170 ((T1 ++ ((iencFin s1).1)).length) c171) (T1 ++ ((iencFin s1).1))) ∧ (Own IntR 1 3 wr1 Mr197 0 (.slice A216 n217 c218) (ou)) ∧ (Ms (Sg) Mr197) ∧ (∀ q_, (Sg) q_ → w.heap.size ≤ q_) ∧ (Dj (Sg) (S151)) ∧ (Dj (Sg) (ob (.slice A42 (sclP l).length c43))) ∧ (Dj (Sg) (ob (.slice A170 (T1 ++ ((iencFin s1).1)).length c171))) ∧ (Dj (Sg) (ob (.slice A216 n217 c218))) ∧ (Ms (ob (.slice A216 n217 c218)) Mr197) ∧ (∀ q_, (ob (.slice A216 n217 c218)) q_ → w.heap.size ≤ q_) ∧ (Dj (ob (.slice A216 n217 c218)) (S151)) ∧ (Dj (ob (.slice A216 n217 c218)) (ob (.slice A42 (sclP l).length c43))) ∧ (Dj (ob (.slice A216 n217 c218)) (ob (.slice A170 (T1 ++ ((iencFin s1).1)).length c171))) ∧ (i ≤ (T1 ++ (iencFin s1).1).length) ∧ (runP idecPut (outs ((T1 ++ (iencFin s1).1).take i)) dec0 = (T2, s2)) ∧ (ou = outs T2) ∧ (∀ x ∈ (T1 ++ (iencFin s1).1).take i, x.err = 0)) _ _ (.cons (t := 0) rfl (.cons (t := 3) rfl (.cons (t := 4) rfl (.cons (t := 8) rfl (.cons (t := 43) rfl (.cons (t := 44) rfl (.cons (t := 45) rfl (.nil _)))))))) ⟨0, dec0, [], S26, [], M173, none, 0, 0, rfl, rfl, Up.refl hm182, e181, fun _ h => h, hs0183, h205, h209, h213, hO174, hO192, mem208, fr37, (Dj.symm dj161), (Dj.symm dj49), (Dj.symm dj185), (Dj.symm dj194), (Ms.nil M173), (Fr.nil w.heap.size), dj193, dj195, dj196, by omega, rfl, rfl, by simp⟩ ?_
    rintro m _ wr1 ⟨i, s2, T2, Sg, ou, Mr197, A216, n217, c218, rfl, rfl, hU198, hE199, hsp201, hsb202, h203, h206, h210, h214, h215, mem219, wr220, dj221, dj222, dj223, dj224, mem225, wr226, dj227, dj228, dj229, hi, hr2, hou, her⟩
    have hm200 := Up.mb hU198
    have mem230 : Ms S151 Mr197 := (fun k h => hsp201 k (mem204 k h))
    have mem231 : Ms (ob (.slice A42 (sclP l).length c43)) Mr197 := (fun k h => hsp201 k (mem212 k h))
    have hlen232 := Own.len h210
    have mem233 : Ms (ob (.slice A170 (T1 ++ ((iencFin s1).1)).length c171)) Mr197 := (fun k h => hsp201 k ((Own.ms hO174) k h))
    have hlen234 := Own.len h214
    obtain rfl := Own.n h215
    have hlen235 := Own.len h215
    have hf2 := idec_facts hr2
    have hot := outs_len (ts := (T1 ++ (iencFin s1).1).take i) (fun x hx => hpo x (List.mem_of_mem_take hx))
    have hptl : ((T1 ++ (iencFin s1).1).take i).length ≤ i := by rw [List.length_take]; omega
    have hpl3 : (T1 ++ (iencFin s1).1).length = T1.length + (iencFin s1).1.length := List.length_append
    have hoo := outs_len hf2.2.2.2.2.2.1
    have hob : ou.length = (outs T2).length := by rw [hou]
    refine CW.seq ?_
    refine CW.region ?_
    refine WL.lss rfl rfl ?_
    refine WL.nil ?_
    refine CW.seq ?_
    refine CW.condP rfl (fun hc236 => ?_) (fun hc236 => ?_)
    · have hil : i < (T1 ++ (iencFin s1).1).length := by omega
      have hio := hpo _ (List.getElem_mem hil)
      refine CW.skip ?_
      refine CW.seq ?_
      refine CW.block ?_
      refine CW.seq ?_
      refine CW.region ?_
      have hlt237 : i < (T1 ++ ((iencFin s1).1)).length := by omega
      obtain ⟨ad238, cs239, hA240, hs241, hat242, hR243⟩ := Own.get h214 hlt237
      rw [show (T1 ++ ((iencFin s1).1))[i] = (T1 ++ (iencFin s1).1)[i] from rfl] at hR243
      obtain ⟨_, hx246, ⟨A244, c245, rfl, hD247⟩, hi248, hi249, hi250⟩ := hR243
      rw [hx246] at hat242
      have hl251 := SlD.lim hD247
      simp only [I64] at hi248 hi249 hi250
      refine WL.idx es55 rfl rfl hA240 (by omega) (by omega) ?_
      refine WL.loadAgg (M := fun _ => False) (cs := [.int .i64 ((T1 ++ (iencFin s1).1)[i].at_), .int .i64 ((T1 ++ (iencFin s1).1)[i].len), .slice A244 ((T1 ++ (iencFin s1).1)[i].out.length) c245, .int .i64 ((T1 ++ (iencFin s1).1)[i].err)]) ag58 rfl hat242 ?_
      refine WL.alloc (cs := [.int .i64 0, .int .i64 0, .slice none 0 0, .int .i64 0]) ti58 rfl (fun g252 w253 hg254 hb255 he256 => ?_)
      obtain ⟨M257, u258, mem259, hsub260, hinv261⟩ := Ext.addVar he256 hm200 hg254 hb255
      have ge262 : ∀ q_, vb g252 q_ → wr1.heap.size ≤ q_ := fun q_ hq_ => by rw [hq_]; exact hg254
      have mem263 := Ms.one mem259
      have e264 := Stp.ext hE199 he256
      have hm265 := Up.mb u258
      have hs0266 : Ms M M257 := fun k h => hsub260 k (hsb202 k h)
      have hs0267 : Ms M173 M257 := fun k h => hsub260 k (hsp201 k h)
      have dj268 := Dj.fresh (T := S151) ge262 mem230 hm200
      have dj269 := Dj.fresh (T := Sg) ge262 mem219 hm200
      have dj270 := Dj.fresh (T := (ob (.slice A42 (sclP l).length c43))) ge262 mem231 hm200
      have dj271 := Dj.fresh (T := (ob (.slice A170 (T1 ++ ((iencFin s1).1)).length c171))) ge262 mem233 hm200
      have dj272 := Dj.fresh (T := (ob (.slice A216 ou.length c218))) ge262 mem225 hm200
      have fr273 := Ge.le ge262 (Stp.size hE199)
      refine WL.storeAll (vs := [.int .i64 ((T1 ++ (iencFin s1).1)[i].at_), .int .i64 ((T1 ++ (iencFin s1).1)[i].len), .slice A244 ((T1 ++ (iencFin s1).1)[i].out.length) c245, .int .i64 ((T1 ++ (iencFin s1).1)[i].err)]) (by rw [ti58]; rfl) rfl rfl (by simp [Value.oneCell']) hb255 rfl (fun w274 hb275 hs276 => ?_)
      have u277 := Stp.upM hs276 hm265 mem263
      have e278 := Stp.wr e264 hs276 (Wr.ofFr NoM fr273)
      have hm279 := Up.mb u277
      refine WL.nil ?_
      refine CW.seq ?_
      refine CW.seq ?_
      refine CW.region ?_
      refine WL.fieldAddr fo58_3 rfl ?_
      refine WL.load sc46 rfl ((Bk.at_ (M := fun _ => False) hb275 (fun h => h)).cell 3 _ rfl) ?_
      refine WL.neq rfl rfl ?_
      refine WL.nil ?_
      refine CW.condP rfl (fun hc280 => ?_) (fun hc280 => ?_)
      · refine CW.seq ?_
        refine CW.region ?_
        refine WL.assign rfl ?_
        refine WL.nil ?_
        refine CW.ret ?_
        refine Ret.one rfl rfl ?_
        exact ⟨by first | rfl | exact congrArg Value.bool (decide_eq_true hsc2), e278⟩
      · have heri : (T1 ++ (iencFin s1).1)[i].err = 0 := Classical.not_not.1 hc280
        refine CW.skip ?_
        refine CW.seq ?_
        refine CW.region ?_
        refine WL.fieldAddr fo58_2 rfl ?_
        refine WL.load sc29 rfl ((Bk.at_ (M := fun _ => False) hb275 (fun h => h)).cell 2 _ rfl) ?_
        refine WL.len Try.underlying29 rfl ?_
        refine WL.move rfl ?_
        refine WL.nil ?_
        refine CW.block ?_
        have mem288 : Ms S151 M257 := (fun k h => hsub260 k (mem230 k h))
        have h289 := IEncR.step h203 he256 (fun _ _ h => h) u258 mem288
        have h290 := IEncR.step h289 hs276 (Dj.symm dj268) u277 mem288
        have mem292 : Ms Sg M257 := (fun k h => hsub260 k (mem219 k h))
        have h293 := IDecR.step h206 he256 (fun _ _ h => h) u258 mem292
        have h294 := IDecR.step h293 hs276 (Dj.symm dj269) u277 mem292
        have h296 := Own.ext h210 he256 u258 hsub260
        have mem297 : Ms (ob (.slice A42 (sclP l).length c43)) M257 := (fun k h => hsub260 k (mem231 k h))
        have h298 := Own.step h296 hs276 (Dj.symm dj270) u277 mem297
        have h300 := Own.ext h214 he256 u258 hsub260
        have mem301 : Ms (ob (.slice A170 (T1 ++ ((iencFin s1).1)).length c171)) M257 := (fun k h => hsub260 k (mem233 k h))
        have h302 := Own.step h300 hs276 (Dj.symm dj271) u277 mem301
        have h307 := Own.ext h215 he256 u258 hsub260
        have mem308 : Ms (ob (.slice A216 ou.length c218)) M257 := (fun k h => hsub260 k (mem225 k h))
        have h309 := Own.step h307 hs276 (Dj.symm dj272) u277 mem308
        refine CW.loop (fun m σ wr2 => ∃ k : Nat, ∃ s3 : IDec, ∃ T3 : List PTok, ∃ Sh : MS, ∃ ou2 : List Int, ∃ Mr281 : MS, ∃ A304 : Option Addr, ∃ n305 : Nat, ∃ c306 : Nat, m = (T1 ++ (iencFin s1).1)[i].out.length - k ∧ σ = [(0, .slice Ap1 l.length cp1), (3, .pointer (some ⟨g9, 0, none⟩)), (4, .pointer (some ⟨g24, 0, none⟩)), (8, .slice A304 n305 c306), (43, .slice A170 ((T1 ++ ((iencFin s1).1)).length) c171), (44, .int .i64 ((T1 ++ ((iencFin s1).1)).length : Int)), (45, .int .i64 (i : Int)), (53, .slice A244 ((T1 ++ (iencFin s1).1)[i].out.length) c245), (54, .int .i64 ((T1 ++ (iencFin s1).1)[i].out.length : Int)), (55, .int .i64 (k : Int))] ∧ (Up w274 M257 wr2 Mr281) ∧ (Stp w wr2 NoM) ∧ (Ms M257 Mr281) ∧ (Ms M Mr281) ∧ (IEncR g9 wr2 Mr281 S151 (iencFin s1).2) ∧ (IDecR g24 wr2 Mr281 Sh s3) ∧ (Own IntR 1 3 wr2 Mr281 0 (.slice A42 ((sclP l).length) c43) (sclP l)) ∧ (Own TokR 4 58 wr2 Mr281 0 (.slice A170 ((T1 ++ ((iencFin s1).1)).length) c171) (T1 ++ ((iencFin s1).1))) ∧ (Own IntR 1 3 wr2 Mr281 0 (.slice A304 n305 c306) (ou2)) ∧ (Bk wr2 g252 58 [.int .i64 ((T1 ++ (iencFin s1).1)[i].at_), .int .i64 ((T1 ++ (iencFin s1).1)[i].len), .slice A244 ((T1 ++ (iencFin s1).1)[i].out.length) c245, .int .i64 ((T1 ++ (iencFin s1).1)[i].err)]) ∧ (Ms (Sh) Mr281) ∧ (∀ q_, (Sh) q_ → w.heap.size ≤ q_) ∧ (Dj (Sh) (S151)) ∧ (Dj (Sh) (ob (.slice A42 (sclP l).length c43))) ∧ (Dj (Sh) (ob (.slice A170 (T1 ++ ((iencFin s1).1)).length c171))) ∧ (Dj (Sh) (ob (.slice A304 n305 c306))) ∧ (Dj (Sh) (vb g252)) ∧ (Ms (ob (.slice A304 n305 c306)) Mr281) ∧ (∀ q_, (ob (.slice A304 n305 c306)) q_ → w.heap.size ≤ q_) ∧ (Dj (ob (.slice A304 n305 c306)) (S151)) ∧ (Dj (ob (.slice A304 n305 c306)) (ob (.slice A42 (sclP l).length c43))) ∧ (Dj (ob (.slice A304 n305 c306)) (ob (.slice A170 (T1 ++ ((iencFin s1).1)).length c171))) ∧ (Dj (ob (.slice A304 n305 c306)) (vb g252)) ∧ (k ≤ (T1 ++ (iencFin s1).1)[i].out.length) ∧ (runP idecPut (outs ((T1 ++ (iencFin s1).1).take i) ++ (T1 ++ (iencFin s1).1)[i].out.take k) dec0 = (T3, s3)) ∧ (ou2 = outs T3)) _ _ (.cons (t := 0) rfl (.cons (t := 3) rfl (.cons (t := 4) rfl (.cons (t := 8) rfl (.cons (t := 43) rfl (.cons (t := 44) rfl (.cons (t := 45) rfl (.cons (t := 53) rfl (.cons (t := 54) rfl (.cons (t := 55) rfl (.nil _))))))))))) ⟨0, s2, T2, Sg, ou, M257, A216, ou.length, c218, rfl, rfl, Up.refl hm279, e278, fun _ h => h, hs0266, h290, h294, h298, h302, h309, hb275, mem292, wr220, dj221, dj222, dj223, dj224, (Dj.symm dj269), mem308, wr226, dj227, dj228, dj229, (Dj.symm dj272), by omega, by rw [List.take_zero, List.append_nil]; exact hr2, hou⟩ ?_
        rintro m _ wr2 ⟨k, s3, T3, Sh, ou2, Mr281, A304, n305, c306, rfl, rfl, hU282, hE283, hsp285, hsb286, h287, h291, h295, h299, h303, h310, mem311, wr312, dj313, dj314, dj315, dj316, dj317, mem318, wr319, dj320, dj321, dj322, dj323, hk, hr3, hou2⟩
        have hm284 := Up.mb hU282
        have hs0324 : Ms M173 Mr281 := fun k h => hsp285 k (hs0267 k h)
        have mem325 : Ms S151 Mr281 := (fun k h => hsp285 k (mem288 k h))
        have mem326 : Ms (ob (.slice A42 (sclP l).length c43)) Mr281 := (fun k h => hsp285 k (mem297 k h))
        have hlen327 := Own.len h295
        have mem328 : Ms (ob (.slice A170 (T1 ++ ((iencFin s1).1)).length c171)) Mr281 := (fun k h => hsp285 k (mem301 k h))
        have hlen329 := Own.len h299
        obtain rfl := Own.n h303
        have hlen330 := Own.len h303
        have mem331 : Ms (vb g252) Mr281 := (fun k h => hsp285 k (mem263 k h))
        have hf3 := idec_facts hr3
        have hln0 : (outs ((T1 ++ (iencFin s1).1).take i) ++ (T1 ++ (iencFin s1).1)[i].out.take k).length = (outs ((T1 ++ (iencFin s1).1).take i)).length + k := by rw [List.length_append, List.length_take]; omega
        have hoo3 := outs_len hf3.2.2.2.2.2.1
        have hob3 : ou2.length = (outs T3).length := by rw [hou2]
        refine CW.seq ?_
        refine CW.region ?_
        refine WL.lss rfl rfl ?_
        refine WL.nil ?_
        refine CW.seq ?_
        refine CW.condP rfl (fun hc332 => ?_) (fun hc332 => ?_)
        · have hkl : k < (T1 ++ (iencFin s1).1)[i].out.length := by omega
          have hpd := idec_put_facts hr3 (T1 ++ (iencFin s1).1)[i].out[k] (by omega)
          have hpd1 := hpd.1
          refine CW.skip ?_
          refine CW.seq ?_
          refine CW.block ?_
          refine CW.seq ?_
          refine CW.region ?_
          have hlt333 : k < ((T1 ++ (iencFin s1).1)[i].out).length := by omega
          obtain ⟨ad334, cs335, hA336, hs337, hat338, hR339⟩ := SlD.get (hD247.up (Up.trans u258 (Up.trans u277 hU282))) (List.getElem?_eq_getElem hlt333)
          rw [show _ = _ from hR339.1] at hat338
          have hhR339 := hR339.2; simp only [I64] at hhR339
          refine WL.idx es29 rfl rfl hA336 (by omega) (by omega) ?_
          refine WL.load sc3 rfl (hat338.cell 0 _ rfl) ?_
          refine WL.assign rfl ?_
          refine WL.nil ?_
          refine CW.seq ?_
          refine CW.region ?_
          refine WL.move rfl ?_
          refine WL.move rfl ?_
          refine WL.call Try.func48 rfl rfl (.cons rfl (.cons rfl (.nil))) (idecPut_spec _ _ hm284 h291 (idec_ok hr3 (by omega)) (((T1 ++ (iencFin s1).1)[i].out)[k]) (SlD.i64 (hD247.up (Up.trans u258 (Up.trans u277 hU282))) hkl)) (fun _ w340 hr341 => ?_)
          obtain ⟨M342, S343, hP344, hM345⟩ := hr341
          have hP348 : PutR wr2 Mr281 Sh w340 M342 S343 _ ((idecPut s3 (((T1 ++ (iencFin s1).1)[i].out)[k])).1) := hP344
          obtain ⟨A346, c347, rfl⟩ := Own.form hP348.own
          have hM349 : IDecR g24 w340 M342 S343 (idecPut s3 (((T1 ++ (iencFin s1).1)[i].out)[k])).2 := hM345
          have e350 := Stp.wr hE283 (PutR.stp hP348) (Wr.ofFr NoM wr312)
          have hm351 := Up.mb (PutR.up hP348)
          have hs0352 : Ms M M342 := fun k h => (PutR.ms hP348) k (hsb286 k h)
          have hs0353 : Ms M173 M342 := fun k h => (PutR.ms hP348) k (hs0324 k h)
          have hs0354 : Ms M257 M342 := fun k h => (PutR.ms hP348) k (hsp285 k h)
          have dj355 := Dj.grow dj313 (PutR.wr hP348) mem325 hm284
          have dj356 := Dj.grow dj314 (PutR.wr hP348) mem326 hm284
          have dj357 := Dj.grow dj315 (PutR.wr hP348) mem328 hm284
          have dj358 := Dj.grow dj316 (PutR.wr hP348) mem318 hm284
          have dj359 := Dj.grow dj317 (PutR.wr hP348) mem331 hm284
          have fr361 := Ge.grow wr312 (PutR.wr hP348) (Stp.size hE283)
          have dj362 := Dj.fresh (T := S151) (PutR.new hP348) mem325 hm284
          have dj363 := Dj.fresh (T := (ob (.slice A42 (sclP l).length c43))) (PutR.new hP348) mem326 hm284
          have dj364 := Dj.fresh (T := (ob (.slice A170 (T1 ++ ((iencFin s1).1)).length c171))) (PutR.new hP348) mem328 hm284
          have dj365 := Dj.fresh (T := (ob (.slice A304 ou2.length c306))) (PutR.new hP348) mem318 hm284
          have dj366 := Dj.fresh (T := (vb g252)) (PutR.new hP348) mem331 hm284
          have fr367 := Ge.le (PutR.new hP348) (Stp.size hE283)
          refine WL.len Try.underlying55 rfl ?_
          refine WL.move rfl ?_
          refine WL.nil ?_
          refine CW.block ?_
          have mem375 : Ms S151 M342 := (fun k h => (PutR.ms hP348) k (mem325 k h))
          have h376 := IEncR.step h287 (PutR.stp hP348) (Dj.symm dj313) (PutR.up hP348) mem375
          have mem379 : Ms (ob (.slice A42 (sclP l).length c43)) M342 := (fun k h => (PutR.ms hP348) k (mem326 k h))
          have h380 := Own.step h295 (PutR.stp hP348) (Dj.symm dj314) (PutR.up hP348) mem379
          have mem382 : Ms (ob (.slice A170 (T1 ++ ((iencFin s1).1)).length c171)) M342 := (fun k h => (PutR.ms hP348) k (mem328 k h))
          have h383 := Own.step h299 (PutR.stp hP348) (Dj.symm dj315) (PutR.up hP348) mem382
          have mem388 : Ms (ob (.slice A304 ou2.length c306)) M342 := (fun k h => (PutR.ms hP348) k (mem318 k h))
          have h389 := Own.step h303 (PutR.stp hP348) (Dj.symm dj316) (PutR.up hP348) mem388
          have h391 := Bk.stp h310 (PutR.stp hP348) ((Dj.symm dj317) _ rfl)
          refine CW.loop (fun m σ wr3 => ∃ mou3 : Nat, ∃ ou3 : List Int, ∃ Mr368 : MS, ∃ A385 : Option Addr, ∃ n386 : Nat, ∃ c387 : Nat, m = (idecPut s3 (T1 ++ (iencFin s1).1)[i].out[k]).1.length - mou3 ∧ σ = [(0, .slice Ap1 l.length cp1), (3, .pointer (some ⟨g9, 0, none⟩)), (4, .pointer (some ⟨g24, 0, none⟩)), (8, .slice A385 n386 c387), (43, .slice A170 ((T1 ++ ((iencFin s1).1)).length) c171), (44, .int .i64 ((T1 ++ ((iencFin s1).1)).length : Int)), (45, .int .i64 (i : Int)), (53, .slice A244 ((T1 ++ (iencFin s1).1)[i].out.length) c245), (54, .int .i64 ((T1 ++ (iencFin s1).1)[i].out.length : Int)), (55, .int .i64 (k : Int)), (61, .slice A346 (((idecPut s3 (((T1 ++ (iencFin s1).1)[i].out)[k])).1).length) c347), (62, .int .i64 (((idecPut s3 (((T1 ++ (iencFin s1).1)[i].out)[k])).1).length : Int)), (63, .int .i64 (mou3 : Int))] ∧ (Up w340 M342 wr3 Mr368) ∧ (Stp w wr3 NoM) ∧ (Ms M342 Mr368) ∧ (Ms M Mr368) ∧ (IEncR g9 wr3 Mr368 S151 (iencFin s1).2) ∧ (IDecR g24 wr3 Mr368 S343 (idecPut s3 (((T1 ++ (iencFin s1).1)[i].out)[k])).2) ∧ (Own IntR 1 3 wr3 Mr368 0 (.slice A42 ((sclP l).length) c43) (sclP l)) ∧ (Own TokR 4 58 wr3 Mr368 0 (.slice A170 ((T1 ++ ((iencFin s1).1)).length) c171) (T1 ++ ((iencFin s1).1))) ∧ (Own IntR 1 3 wr3 Mr368 0 (.slice A385 n386 c387) (ou3)) ∧ (Bk wr3 g252 58 [.int .i64 ((T1 ++ (iencFin s1).1)[i].at_), .int .i64 ((T1 ++ (iencFin s1).1)[i].len), .slice A244 ((T1 ++ (iencFin s1).1)[i].out.length) c245, .int .i64 ((T1 ++ (iencFin s1).1)[i].err)]) ∧ (Own TokR 4 58 wr3 Mr368 0 (.slice A346 (((idecPut s3 (((T1 ++ (iencFin s1).1)[i].out)[k])).1).length) c347) ((idecPut s3 (((T1 ++ (iencFin s1).1)[i].out)[k])).1)) ∧ (Ms (ob (.slice A385 n386 c387)) Mr368) ∧ (∀ q_, (ob (.slice A385 n386 c387)) q_ → w.heap.size ≤ q_) ∧ (Dj (ob (.slice A385 n386 c387)) (S151)) ∧ (Dj (ob (.slice A385 n386 c387)) (S343)) ∧ (Dj (ob (.slice A385 n386 c387)) (ob (.slice A42 (sclP l).length c43))) ∧ (Dj (ob (.slice A385 n386 c387)) (ob (.slice A170 (T1 ++ ((iencFin s1).1)).length c171))) ∧ (Dj (ob (.slice A385 n386 c387)) (vb g252)) ∧ (Dj (ob (.slice A385 n386 c387)) (ob (.slice A346 ((idecPut s3 (((T1 ++ (iencFin s1).1)[i].out)[k])).1).length c347))) ∧ (mou3 ≤ (idecPut s3 (T1 ++ (iencFin s1).1)[i].out[k]).1.length) ∧ (ou3 = ou2 ++ outs ((idecPut s3 (T1 ++ (iencFin s1).1)[i].out[k]).1.take mou3))) _ _ (.cons (t := 0) rfl (.cons (t := 3) rfl (.cons (t := 4) rfl (.cons (t := 8) rfl (.cons (t := 43) rfl (.cons (t := 44) rfl (.cons (t := 45) rfl (.cons (t := 53) rfl (.cons (t := 54) rfl (.cons (t := 55) rfl (.cons (t := 61) rfl (.cons (t := 62) rfl (.cons (t := 63) rfl (.nil _)))))))))))))) ⟨0, ou2, M342, A304, ou2.length, c306, rfl, rfl, Up.refl hm351, e350, fun _ h => h, hs0352, h376, hM349, h380, h383, h389, h391, (PutR.own hP348), mem388, wr319, dj320, (Dj.symm dj358), dj321, dj322, dj323, (Dj.symm dj365), by omega, by simp [outs]⟩ ?_
          rintro m _ wr3 ⟨mou3, ou3, Mr368, A385, n386, c387, rfl, rfl, hU369, hE370, hsp372, hsb373, h374, h377, h378, h381, h384, h390, h392, mem393, wr394, dj395, dj396, dj397, dj398, dj399, dj400, hmou3, hou3⟩
          have hm371 := Up.mb hU369
          have hs0401 : Ms M173 Mr368 := fun k h => hsp372 k (hs0353 k h)
          have hs0402 : Ms M257 Mr368 := fun k h => hsp372 k (hs0354 k h)
          have mem403 : Ms S151 Mr368 := (fun k h => hsp372 k (mem375 k h))
          have mem404 : Ms S343 Mr368 := (fun k h => hsp372 k ((IDecR.ms hM349) k h))
          have mem405 : Ms (ob (.slice A42 (sclP l).length c43)) Mr368 := (fun k h => hsp372 k (mem379 k h))
          have hlen406 := Own.len h378
          have mem407 : Ms (ob (.slice A170 (T1 ++ ((iencFin s1).1)).length c171)) Mr368 := (fun k h => hsp372 k (mem382 k h))
          have hlen408 := Own.len h381
          obtain rfl := Own.n h384
          have hlen409 := Own.len h384
          have mem410 : Ms (vb g252) Mr368 := (fun k h => hsp372 k ((fun k h => (PutR.ms hP348) k (mem331 k h)) k h))
          have mem411 : Ms (ob (.slice A346 ((idecPut s3 (((T1 ++ (iencFin s1).1)[i].out)[k])).1).length c347)) Mr368 := (fun k h => hsp372 k ((Own.ms (PutR.own hP348)) k h))
          have hlen412 := Own.len h392
          have holou3 := outs_len (ts := (idecPut s3 (T1 ++ (iencFin s1).1)[i].out[k]).1.take mou3) (fun x hx => hpd.2 x (List.mem_of_mem_take hx))
          have hmtou3 : ((idecPut s3 (T1 ++ (iencFin s1).1)[i].out[k]).1.take mou3).length ≤ mou3 := by rw [List.length_take]; omega
          have hglou3 : ou3.length = ou2.length + (outs ((idecPut s3 (T1 ++ (iencFin s1).1)[i].out[k]).1.take mou3)).length := by rw [hou3, List.length_append]
          refine CW.seq ?_
          refine CW.region ?_
          refine WL.lss rfl rfl ?_
          refine WL.nil ?_
          refine CW.seq ?_
          refine CW.condP rfl (fun hc413 => ?_) (fun hc413 => ?_)
          · have hmlou3 : mou3 < (idecPut s3 (T1 ++ (iencFin s1).1)[i].out[k]).1.length := by omega
            have hx8ou3 := hpd.2 _ (List.getElem_mem hmlou3)
            refine CW.skip ?_
            refine CW.seq ?_
            refine CW.block ?_
            refine CW.seq ?_
            refine CW.region ?_
            have hlt414 : mou3 < ((idecPut s3 (((T1 ++ (iencFin s1).1)[i].out)[k])).1).length := by omega
            obtain ⟨ad415, cs416, hA417, hs418, hat419, hR420⟩ := Own.get h392 hlt414
            rw [show ((idecPut s3 (((T1 ++ (iencFin s1).1)[i].out)[k])).1)[mou3] = (idecPut s3 (T1 ++ (iencFin s1).1)[i].out[k]).1[mou3] from rfl] at hR420
            obtain ⟨_, hx423, ⟨A421, c422, rfl, hD424⟩, hi425, hi426, hi427⟩ := hR420
            rw [hx423] at hat419
            have hl428 := SlD.lim hD424
            simp only [I64] at hi425 hi426 hi427
            refine WL.idx es55 rfl rfl hA417 (by omega) (by omega) ?_
            refine WL.loadAgg (M := fun _ => False) (cs := [.int .i64 ((idecPut s3 (T1 ++ (iencFin s1).1)[i].out[k]).1[mou3].at_), .int .i64 ((idecPut s3 (T1 ++ (iencFin s1).1)[i].out[k]).1[mou3].len), .slice A421 ((idecPut s3 (T1 ++ (iencFin s1).1)[i].out[k]).1[mou3].out.length) c422, .int .i64 ((idecPut s3 (T1 ++ (iencFin s1).1)[i].out[k]).1[mou3].err)]) ag58 rfl hat419 ?_
            refine WL.alloc (cs := [.int .i64 0, .int .i64 0, .slice none 0 0, .int .i64 0]) ti58 rfl (fun g429 w430 hg431 hb432 he433 => ?_)
            obtain ⟨M434, u435, mem436, hsub437, hinv438⟩ := Ext.addVar he433 hm371 hg431 hb432
            have ge439 : ∀ q_, vb g429 q_ → wr3.heap.size ≤ q_ := fun q_ hq_ => by rw [hq_]; exact hg431
            have mem440 := Ms.one mem436
            have e441 := Stp.ext hE370 he433
            have hm442 := Up.mb u435
            have hs0443 : Ms M M434 := fun k h => hsub437 k (hsb373 k h)
            have hs0444 : Ms M173 M434 := fun k h => hsub437 k (hs0401 k h)
            have hs0445 : Ms M257 M434 := fun k h => hsub437 k (hs0402 k h)
            have hs0446 : Ms M342 M434 := fun k h => hsub437 k (hsp372 k h)
            have dj447 := Dj.fresh (T := S151) ge439 mem403 hm371
            have dj448 := Dj.fresh (T := S343) ge439 mem404 hm371
            have dj449 := Dj.fresh (T := (ob (.slice A42 (sclP l).length c43))) ge439 mem405 hm371
            have dj450 := Dj.fresh (T := (ob (.slice A170 (T1 ++ ((iencFin s1).1)).length c171))) ge439 mem407 hm371
            have dj451 := Dj.fresh (T := (ob (.slice A385 ou3.length c387))) ge439 mem393 hm371
            have dj452 := Dj.fresh (T := (vb g252)) ge439 mem410 hm371
            have dj453 := Dj.fresh (T := (ob (.slice A346 ((idecPut s3 (((T1 ++ (iencFin s1).1)[i].out)[k])).1).length c347))) ge439 mem411 hm371
            have fr454 := Ge.le ge439 (Stp.size hE370)
            refine WL.storeAll (vs := [.int .i64 ((idecPut s3 (T1 ++ (iencFin s1).1)[i].out[k]).1[mou3].at_), .int .i64 ((idecPut s3 (T1 ++ (iencFin s1).1)[i].out[k]).1[mou3].len), .slice A421 ((idecPut s3 (T1 ++ (iencFin s1).1)[i].out[k]).1[mou3].out.length) c422, .int .i64 ((idecPut s3 (T1 ++ (iencFin s1).1)[i].out[k]).1[mou3].err)]) (by rw [ti58]; rfl) rfl rfl (by simp [Value.oneCell']) hb432 rfl (fun w455 hb456 hs457 => ?_)
            have u458 := Stp.upM hs457 hm442 mem440
            have e459 := Stp.wr e441 hs457 (Wr.ofFr NoM fr454)
            have hm460 := Up.mb u458
            refine WL.nil ?_
            refine CW.region ?_
            refine WL.move rfl ?_
            refine WL.fieldAddr fo58_2 rfl ?_
            refine WL.load sc29 rfl ((Bk.at_ (M := fun _ => False) hb456 (fun h => h)).cell 2 _ rfl) ?_
            have h470 := Own.ext h384 he433 u435 hsub437
            have mem471 : Ms (ob (.slice A385 ou3.length c387)) M434 := (fun k h => hsub437 k (mem393 k h))
            have h472 := Own.step h470 hs457 (Dj.symm dj451) u458 mem471
            refine WL.appendR Try.underlying29 ti3 rfl (by decide) rfl rfl h472 (Sl.atl (SlD.sl (hD424.up (Up.trans u435 u458)))) hm460 (by decide) (by first | omega | (simp; omega)) (fun A461 c462 w463 M464 hO465 hs466 u467 hsub468 hnew469 => ?_)
            have e473 := Stp.wr e459 hs466 (Wr.ofFr NoM wr394)
            have hm474 := Up.mb u467
            have hs0475 : Ms M M464 := fun k h => hsub468 k (hs0443 k h)
            have hs0476 : Ms M173 M464 := fun k h => hsub468 k (hs0444 k h)
            have hs0477 : Ms M257 M464 := fun k h => hsub468 k (hs0445 k h)
            have hs0478 : Ms M342 M464 := fun k h => hsub468 k (hs0446 k h)
            have mem480 : Ms S151 M434 := (fun k h => hsub437 k (mem403 k h))
            have dj479 := Dj.grow dj395 hnew469 mem480 hm460
            have mem482 : Ms S343 M434 := (fun k h => hsub437 k (mem404 k h))
            have dj481 := Dj.grow dj396 hnew469 mem482 hm460
            have mem484 : Ms (ob (.slice A42 (sclP l).length c43)) M434 := (fun k h => hsub437 k (mem405 k h))
            have dj483 := Dj.grow dj397 hnew469 mem484 hm460
            have mem486 : Ms (ob (.slice A170 (T1 ++ ((iencFin s1).1)).length c171)) M434 := (fun k h => hsub437 k (mem407 k h))
            have dj485 := Dj.grow dj398 hnew469 mem486 hm460
            have mem488 : Ms (vb g252) M434 := (fun k h => hsub437 k (mem410 k h))
            have dj487 := Dj.grow dj399 hnew469 mem488 hm460
            have mem490 : Ms (ob (.slice A346 ((idecPut s3 (((T1 ++ (iencFin s1).1)[i].out)[k])).1).length c347)) M434 := (fun k h => hsub437 k (mem411 k h))
            have dj489 := Dj.grow dj400 hnew469 mem490 hm460
            have dj491 := Dj.grow (Dj.symm dj451) hnew469 mem440 hm460
            have fr493 := Ge.grow wr394 hnew469 (Stp.size e459)
            refine WL.assign rfl ?_
            refine WL.nil ?_
            refine CW.region ?_
            refine WL.add rfl rfl (by omega) ?_
            refine WL.move rfl ?_
            refine WL.nil ?_
            have mem494 : Ms S151 M434 := (fun k h => hsub437 k (mem403 k h))
            have h495 := IEncR.step h374 he433 (fun _ _ h => h) u435 mem494
            have h496 := IEncR.step h495 hs457 (Dj.symm dj447) u458 mem480
            have mem497 : Ms S151 M464 := (fun k h => hsub468 k (mem480 k h))
            have h498 := IEncR.step h496 hs466 (Dj.symm dj395) u467 mem497
            have mem499 : Ms S343 M434 := (fun k h => hsub437 k (mem404 k h))
            have h500 := IDecR.step h377 he433 (fun _ _ h => h) u435 mem499
            have h501 := IDecR.step h500 hs457 (Dj.symm dj448) u458 mem482
            have mem502 : Ms S343 M464 := (fun k h => hsub468 k (mem482 k h))
            have h503 := IDecR.step h501 hs466 (Dj.symm dj396) u467 mem502
            have h504 := Own.ext h378 he433 u435 hsub437
            have h505 := Own.step h504 hs457 (Dj.symm dj449) u458 mem484
            have mem506 : Ms (ob (.slice A42 (sclP l).length c43)) M464 := (fun k h => hsub468 k (mem484 k h))
            have h507 := Own.step h505 hs466 (Dj.symm dj397) u467 mem506
            have h508 := Own.ext h381 he433 u435 hsub437
            have h509 := Own.step h508 hs457 (Dj.symm dj450) u458 mem486
            have mem510 : Ms (ob (.slice A170 (T1 ++ ((iencFin s1).1)).length c171)) M464 := (fun k h => hsub468 k (mem486 k h))
            have h511 := Own.step h509 hs466 (Dj.symm dj398) u467 mem510
            have h512 := Bk.ext h390 he433
            have h513 := Bk.stp h512 hs457 ((Dj.symm dj452) _ rfl)
            have h514 := Bk.stp h513 hs466 ((Dj.symm dj399) _ rfl)
            have h515 := Own.ext h392 he433 u435 hsub437
            have h516 := Own.step h515 hs457 (Dj.symm dj453) u458 mem490
            have mem517 : Ms (ob (.slice A346 ((idecPut s3 (((T1 ++ (iencFin s1).1)[i].out)[k])).1).length c347)) M464 := (fun k h => hsub468 k (mem490 k h))
            have h518 := Own.step h516 hs466 (Dj.symm dj400) u467 mem517
            refine Loop.again _ _ ?_ ?_ ⟨mou3 + 1, ou3 ++ ((idecPut s3 (T1 ++ (iencFin s1).1)[i].out[k]).1[mou3].out), M464, A461, (ou3 ++ ((idecPut s3 (T1 ++ (iencFin s1).1)[i].out[k]).1[mou3].out)).length, c462, rfl, rfl, (Up.trans hU369 (Up.trans u435 (Up.trans u458 u467))), e473, hs0478, hs0475, h498, h503, h507, h511, hO465, h514, h518, (Own.ms hO465), fr493, dj479, dj481, dj483, dj485, dj487, dj489, by omega, by rw [hou3, outs_take_succ hmlou3, List.append_assoc]⟩
            · omega
            · exact .cons (t := 0) rfl (.cons (t := 3) rfl (.cons (t := 4) rfl (.cons (t := 8) rfl (.cons (t := 43) rfl (.cons (t := 44) rfl (.cons (t := 45) rfl (.cons (t := 53) rfl (.cons (t := 54) rfl (.cons (t := 55) rfl (.cons (t := 61) rfl (.cons (t := 62) rfl (.cons (t := 63) rfl (.nil _)))))))))))))
          · have hmeou3 : mou3 = (idecPut s3 (T1 ++ (iencFin s1).1)[i].out[k]).1.length := by omega
            refine CW.exit ?_
            refine CW.region ?_
            refine WL.add rfl rfl (by omega) ?_
            refine WL.move rfl ?_
            refine WL.nil ?_
            refine Loop.again _ _ ?_ ?_ ⟨k + 1, (idecPut s3 (T1 ++ (iencFin s1).1)[i].out[k]).2, T3 ++ (idecPut s3 (T1 ++ (iencFin s1).1)[i].out[k]).1, S343, ou3, Mr368, A385, ou3.length, c387, rfl, rfl, (Up.trans hU282 (Up.trans (PutR.up hP348) hU369)), hE370, hs0402, hsb373, h374, h377, h378, h381, h384, h390, mem404, fr361, dj355, dj356, dj357, (Dj.symm dj396), dj359, mem393, wr394, dj395, dj397, dj398, dj399, by omega, by rw [outs_step hkl, run_append, hr3]; simp [runP], by rw [hou3, hou2, outs_append, List.take_of_length_le (by omega)]⟩
            · omega
            · exact .cons (t := 0) rfl (.cons (t := 3) rfl (.cons (t := 4) rfl (.cons (t := 8) rfl (.cons (t := 43) rfl (.cons (t := 44) rfl (.cons (t := 45) rfl (.cons (t := 53) rfl (.cons (t := 54) rfl (.cons (t := 55) rfl (.nil _))))))))))
        · have hkE : k = (T1 ++ (iencFin s1).1)[i].out.length := by omega
          refine CW.exit ?_
          refine CW.region ?_
          refine WL.add rfl rfl (by omega) ?_
          refine WL.move rfl ?_
          refine WL.nil ?_
          have hoe : outs ((T1 ++ (iencFin s1).1).take i) ++ (T1 ++ (iencFin s1).1)[i].out.take k = outs ((T1 ++ (iencFin s1).1).take (i + 1)) := by rw [hkE, List.take_length, outs_take_succ hil]
          rw [hoe] at hr3
          refine Loop.again _ _ ?_ ?_ ⟨i + 1, s3, T3, Sh, ou2, Mr281, A304, ou2.length, c306, rfl, rfl, (Up.trans hU198 (Up.trans u258 (Up.trans u277 hU282))), hE283, hs0324, hsb286, h287, h291, h295, h299, h303, mem311, wr312, dj313, dj314, dj315, dj316, mem318, wr319, dj320, dj321, dj322, by omega, hr3, hou2, err_next hil her heri⟩
          · omega
          · exact .cons (t := 0) rfl (.cons (t := 3) rfl (.cons (t := 4) rfl (.cons (t := 8) rfl (.cons (t := 43) rfl (.cons (t := 44) rfl (.cons (t := 45) rfl (.nil _)))))))
    · have hie : i = (T1 ++ (iencFin s1).1).length := by omega
      have hr2E : runP idecPut (outs (T1 ++ (iencFin s1).1)) dec0 = (T2, s2) := by rw [← hr2, hie, List.take_length]
      have here : ∀ x ∈ (T1 ++ (iencFin s1).1), x.err = 0 := by rw [hie, List.take_length] at her; exact her
      have hol : (outs (T1 ++ (iencFin s1).1)).length ≤ 8 * (T1 ++ (iencFin s1).1).length := outs_len hpo
      have hft := idec_fin_facts hr2E (by omega)
      have hba := back_all (sclP l) (by rw [← hsame]; exact here)
      rw [← hsame] at hba
      have hdl : allP idecPut idecFin (outs (T1 ++ (iencFin s1).1)) dec0 = (T2 ++ (idecFin s2).1, (idecFin s2).2) := by simp only [allP, hr2E]
      rw [hdl] at hba
      have hsc2 : (idecFin s2).2.sc = (iencFin s1).2.sc := by rw [hscr]; exact hba.2
      refine CW.exit ?_
      refine CW.seq ?_
      refine CW.seq ?_
      refine CW.region ?_
      refine WL.move rfl ?_
      refine WL.call Try.func49 rfl rfl (.cons rfl (.nil)) (idecEnd_spec _ _ hm200 h206 (idec_ok hr2E (by omega))) (fun _ w519 hr520 => ?_)
      obtain ⟨M521, S522, hP523, hM524⟩ := hr520
      have hP527 : PutR wr1 Mr197 Sg w519 M521 S522 _ ((idecFin s2).1) := hP523
      obtain ⟨A525, c526, rfl⟩ := Own.form hP527.own
      have hM528 : IDecR g24 w519 M521 S522 (idecFin s2).2 := hM524
      have e529 := Stp.wr hE199 (PutR.stp hP527) (Wr.ofFr NoM wr220)
      have hm530 := Up.mb (PutR.up hP527)
      have hs0531 : Ms M M521 := fun k h => (PutR.ms hP527) k (hsb202 k h)
      have dj532 := Dj.grow dj221 (PutR.wr hP527) mem230 hm200
      have dj533 := Dj.grow dj222 (PutR.wr hP527) mem231 hm200
      have dj534 := Dj.grow dj223 (PutR.wr hP527) mem233 hm200
      have dj535 := Dj.grow dj224 (PutR.wr hP527) mem225 hm200
      have fr537 := Ge.grow wr220 (PutR.wr hP527) (Stp.size hE199)
      have dj538 := Dj.fresh (T := S151) (PutR.new hP527) mem230 hm200
      have dj539 := Dj.fresh (T := (ob (.slice A42 (sclP l).length c43))) (PutR.new hP527) mem231 hm200
      have dj540 := Dj.fresh (T := (ob (.slice A170 (T1 ++ ((iencFin s1).1)).length c171))) (PutR.new hP527) mem233 hm200
      have dj541 := Dj.fresh (T := (ob (.slice A216 ou.length c218))) (PutR.new hP527) mem225 hm200
      have fr542 := Ge.le (PutR.new hP527) (Stp.size hE199)
      refine WL.len Try.underlying55 rfl ?_
      refine WL.move rfl ?_
      refine WL.nil ?_
      refine CW.block ?_
      have mem550 : Ms S151 M521 := (fun k h => (PutR.ms hP527) k (mem230 k h))
      have h551 := IEncR.step h203 (PutR.stp hP527) (Dj.symm dj221) (PutR.up hP527) mem550
      have mem554 : Ms (ob (.slice A42 (sclP l).length c43)) M521 := (fun k h => (PutR.ms hP527) k (mem231 k h))
      have h555 := Own.step h210 (PutR.stp hP527) (Dj.symm dj222) (PutR.up hP527) mem554
      have mem557 : Ms (ob (.slice A170 (T1 ++ ((iencFin s1).1)).length c171)) M521 := (fun k h => (PutR.ms hP527) k (mem233 k h))
      have h558 := Own.step h214 (PutR.stp hP527) (Dj.symm dj223) (PutR.up hP527) mem557
      have mem563 : Ms (ob (.slice A216 ou.length c218)) M521 := (fun k h => (PutR.ms hP527) k (mem225 k h))
      have h564 := Own.step h215 (PutR.stp hP527) (Dj.symm dj224) (PutR.up hP527) mem563
      refine CW.loop (fun m σ wr4 => ∃ mou4 : Nat, ∃ ou4 : List Int, ∃ Mr543 : MS, ∃ A560 : Option Addr, ∃ n561 : Nat, ∃ c562 : Nat, m = (idecFin s2).1.length - mou4 ∧ σ = [(0, .slice Ap1 l.length cp1), (3, .pointer (some ⟨g9, 0, none⟩)), (4, .pointer (some ⟨g24, 0, none⟩)), (8, .slice A560 n561 c562), (75, .slice A525 (((idecFin s2).1).length) c526), (76, .int .i64 (((idecFin s2).1).length : Int)), (77, .int .i64 (mou4 : Int))] ∧ (Up w519 M521 wr4 Mr543) ∧ (Stp w wr4 NoM) ∧ (Ms M521 Mr543) ∧ (Ms M Mr543) ∧ (IEncR g9 wr4 Mr543 S151 (iencFin s1).2) ∧ (IDecR g24 wr4 Mr543 S522 (idecFin s2).2) ∧ (Own IntR 1 3 wr4 Mr543 0 (.slice A42 ((sclP l).length) c43) (sclP l)) ∧ (Own TokR 4 58 wr4 Mr543 0 (.slice A170 ((T1 ++ ((iencFin s1).1)).length) c171) (T1 ++ ((iencFin s1).1))) ∧ (Own IntR 1 3 wr4 Mr543 0 (.slice A560 n561 c562) (ou4)) ∧ (Own TokR 4 58 wr4 Mr543 0 (.slice A525 (((idecFin s2).1).length) c526) ((idecFin s2).1)) ∧ (Ms (ob (.slice A560 n561 c562)) Mr543) ∧ (∀ q_, (ob (.slice A560 n561 c562)) q_ → w.heap.size ≤ q_) ∧ (Dj (ob (.slice A560 n561 c562)) (S151)) ∧ (Dj (ob (.slice A560 n561 c562)) (S522)) ∧ (Dj (ob (.slice A560 n561 c562)) (ob (.slice A42 (sclP l).length c43))) ∧ (Dj (ob (.slice A560 n561 c562)) (ob (.slice A170 (T1 ++ ((iencFin s1).1)).length c171))) ∧ (Dj (ob (.slice A560 n561 c562)) (ob (.slice A525 ((idecFin s2).1).length c526))) ∧ (mou4 ≤ (idecFin s2).1.length) ∧ (ou4 = ou ++ outs ((idecFin s2).1.take mou4))) _ _ (.cons (t := 0) rfl (.cons (t := 3) rfl (.cons (t := 4) rfl (.cons (t := 8) rfl (.cons (t := 75) rfl (.cons (t := 76) rfl (.cons (t := 77) rfl (.nil _)))))))) ⟨0, ou, M521, A216, ou.length, c218, rfl, rfl, Up.refl hm530, e529, fun _ h => h, hs0531, h551, hM528, h555, h558, h564, (PutR.own hP527), mem563, wr226, dj227, (Dj.symm dj535), dj228, dj229, (Dj.symm dj541), by omega, by simp [outs]⟩ ?_
      rintro m _ wr4 ⟨mou4, ou4, Mr543, A560, n561, c562, rfl, rfl, hU544, hE545, hsp547, hsb548, h549, h552, h553, h556, h559, h565, mem566, wr567, dj568, dj569, dj570, dj571, dj572, hmou4, hou4⟩
      have hm546 := Up.mb hU544
      have mem573 : Ms S151 Mr543 := (fun k h => hsp547 k (mem550 k h))
      have mem574 : Ms S522 Mr543 := (fun k h => hsp547 k ((IDecR.ms hM528) k h))
      have mem575 : Ms (ob (.slice A42 (sclP l).length c43)) Mr543 := (fun k h => hsp547 k (mem554 k h))
      have hlen576 := Own.len h553
      have mem577 : Ms (ob (.slice A170 (T1 ++ ((iencFin s1).1)).length c171)) Mr543 := (fun k h => hsp547 k (mem557 k h))
      have hlen578 := Own.len h556
      obtain rfl := Own.n h559
      have hlen579 := Own.len h559
      have mem580 : Ms (ob (.slice A525 ((idecFin s2).1).length c526)) Mr543 := (fun k h => hsp547 k ((Own.ms (PutR.own hP527)) k h))
      have hlen581 := Own.len h565
      have holou4 := outs_len (ts := (idecFin s2).1.take mou4) (fun x hx => hft.2 x (List.mem_of_mem_take hx))
      have hmtou4 : ((idecFin s2).1.take mou4).length ≤ mou4 := by rw [List.length_take]; omega
      have hglou4 : ou4.length = ou.length + (outs ((idecFin s2).1.take mou4)).length := by rw [hou4, List.length_append]
      refine CW.seq ?_
      refine CW.region ?_
      refine WL.lss rfl rfl ?_
      refine WL.nil ?_
      refine CW.seq ?_
      refine CW.condP rfl (fun hc582 => ?_) (fun hc582 => ?_)
      · have hmlou4 : mou4 < (idecFin s2).1.length := by omega
        have hx8ou4 := hft.2 _ (List.getElem_mem hmlou4)
        refine CW.skip ?_
        refine CW.seq ?_
        refine CW.block ?_
        refine CW.seq ?_
        refine CW.region ?_
        have hlt583 : mou4 < ((idecFin s2).1).length := by omega
        obtain ⟨ad584, cs585, hA586, hs587, hat588, hR589⟩ := Own.get h565 hlt583
        rw [show ((idecFin s2).1)[mou4] = (idecFin s2).1[mou4] from rfl] at hR589
        obtain ⟨_, hx592, ⟨A590, c591, rfl, hD593⟩, hi594, hi595, hi596⟩ := hR589
        rw [hx592] at hat588
        have hl597 := SlD.lim hD593
        simp only [I64] at hi594 hi595 hi596
        refine WL.idx es55 rfl rfl hA586 (by omega) (by omega) ?_
        refine WL.loadAgg (M := fun _ => False) (cs := [.int .i64 ((idecFin s2).1[mou4].at_), .int .i64 ((idecFin s2).1[mou4].len), .slice A590 ((idecFin s2).1[mou4].out.length) c591, .int .i64 ((idecFin s2).1[mou4].err)]) ag58 rfl hat588 ?_
        refine WL.alloc (cs := [.int .i64 0, .int .i64 0, .slice none 0 0, .int .i64 0]) ti58 rfl (fun g598 w599 hg600 hb601 he602 => ?_)
        obtain ⟨M603, u604, mem605, hsub606, hinv607⟩ := Ext.addVar he602 hm546 hg600 hb601
        have ge608 : ∀ q_, vb g598 q_ → wr4.heap.size ≤ q_ := fun q_ hq_ => by rw [hq_]; exact hg600
        have mem609 := Ms.one mem605
        have e610 := Stp.ext hE545 he602
        have hm611 := Up.mb u604
        have hs0612 : Ms M M603 := fun k h => hsub606 k (hsb548 k h)
        have hs0613 : Ms M521 M603 := fun k h => hsub606 k (hsp547 k h)
        have dj614 := Dj.fresh (T := S151) ge608 mem573 hm546
        have dj615 := Dj.fresh (T := S522) ge608 mem574 hm546
        have dj616 := Dj.fresh (T := (ob (.slice A42 (sclP l).length c43))) ge608 mem575 hm546
        have dj617 := Dj.fresh (T := (ob (.slice A170 (T1 ++ ((iencFin s1).1)).length c171))) ge608 mem577 hm546
        have dj618 := Dj.fresh (T := (ob (.slice A560 ou4.length c562))) ge608 mem566 hm546
        have dj619 := Dj.fresh (T := (ob (.slice A525 ((idecFin s2).1).length c526))) ge608 mem580 hm546
        have fr620 := Ge.le ge608 (Stp.size hE545)
        refine WL.storeAll (vs := [.int .i64 ((idecFin s2).1[mou4].at_), .int .i64 ((idecFin s2).1[mou4].len), .slice A590 ((idecFin s2).1[mou4].out.length) c591, .int .i64 ((idecFin s2).1[mou4].err)]) (by rw [ti58]; rfl) rfl rfl (by simp [Value.oneCell']) hb601 rfl (fun w621 hb622 hs623 => ?_)
        have u624 := Stp.upM hs623 hm611 mem609
        have e625 := Stp.wr e610 hs623 (Wr.ofFr NoM fr620)
        have hm626 := Up.mb u624
        refine WL.nil ?_
        refine CW.region ?_
        refine WL.move rfl ?_
        refine WL.fieldAddr fo58_2 rfl ?_
        refine WL.load sc29 rfl ((Bk.at_ (M := fun _ => False) hb622 (fun h => h)).cell 2 _ rfl) ?_
        have h636 := Own.ext h559 he602 u604 hsub606
        have mem637 : Ms (ob (.slice A560 ou4.length c562)) M603 := (fun k h => hsub606 k (mem566 k h))
        have h638 := Own.step h636 hs623 (Dj.symm dj618) u624 mem637
        refine WL.appendR Try.underlying29 ti3 rfl (by decide) rfl rfl h638 (Sl.atl (SlD.sl (hD593.up (Up.trans u604 u624)))) hm626 (by decide) (by first | omega | (simp; omega)) (fun A627 c628 w629 M630 hO631 hs632 u633 hsub634 hnew635 => ?_)
        have e639 := Stp.wr e625 hs632 (Wr.ofFr NoM wr567)
        have hm640 := Up.mb u633
        have hs0641 : Ms M M630 := fun k h => hsub634 k (hs0612 k h)
        have hs0642 : Ms M521 M630 := fun k h => hsub634 k (hs0613 k h)
        have mem644 : Ms S151 M603 := (fun k h => hsub606 k (mem573 k h))
        have dj643 := Dj.grow dj568 hnew635 mem644 hm626
        have mem646 : Ms S522 M603 := (fun k h => hsub606 k (mem574 k h))
        have dj645 := Dj.grow dj569 hnew635 mem646 hm626
        have mem648 : Ms (ob (.slice A42 (sclP l).length c43)) M603 := (fun k h => hsub606 k (mem575 k h))
        have dj647 := Dj.grow dj570 hnew635 mem648 hm626
        have mem650 : Ms (ob (.slice A170 (T1 ++ ((iencFin s1).1)).length c171)) M603 := (fun k h => hsub606 k (mem577 k h))
        have dj649 := Dj.grow dj571 hnew635 mem650 hm626
        have mem652 : Ms (ob (.slice A525 ((idecFin s2).1).length c526)) M603 := (fun k h => hsub606 k (mem580 k h))
        have dj651 := Dj.grow dj572 hnew635 mem652 hm626
        have dj653 := Dj.grow (Dj.symm dj618) hnew635 mem609 hm626
        have fr655 := Ge.grow wr567 hnew635 (Stp.size e625)
        refine WL.assign rfl ?_
        refine WL.nil ?_
        refine CW.region ?_
        refine WL.add rfl rfl (by omega) ?_
        refine WL.move rfl ?_
        refine WL.nil ?_
        have mem656 : Ms S151 M603 := (fun k h => hsub606 k (mem573 k h))
        have h657 := IEncR.step h549 he602 (fun _ _ h => h) u604 mem656
        have h658 := IEncR.step h657 hs623 (Dj.symm dj614) u624 mem644
        have mem659 : Ms S151 M630 := (fun k h => hsub634 k (mem644 k h))
        have h660 := IEncR.step h658 hs632 (Dj.symm dj568) u633 mem659
        have mem661 : Ms S522 M603 := (fun k h => hsub606 k (mem574 k h))
        have h662 := IDecR.step h552 he602 (fun _ _ h => h) u604 mem661
        have h663 := IDecR.step h662 hs623 (Dj.symm dj615) u624 mem646
        have mem664 : Ms S522 M630 := (fun k h => hsub634 k (mem646 k h))
        have h665 := IDecR.step h663 hs632 (Dj.symm dj569) u633 mem664
        have h666 := Own.ext h553 he602 u604 hsub606
        have h667 := Own.step h666 hs623 (Dj.symm dj616) u624 mem648
        have mem668 : Ms (ob (.slice A42 (sclP l).length c43)) M630 := (fun k h => hsub634 k (mem648 k h))
        have h669 := Own.step h667 hs632 (Dj.symm dj570) u633 mem668
        have h670 := Own.ext h556 he602 u604 hsub606
        have h671 := Own.step h670 hs623 (Dj.symm dj617) u624 mem650
        have mem672 : Ms (ob (.slice A170 (T1 ++ ((iencFin s1).1)).length c171)) M630 := (fun k h => hsub634 k (mem650 k h))
        have h673 := Own.step h671 hs632 (Dj.symm dj571) u633 mem672
        have h674 := Own.ext h565 he602 u604 hsub606
        have h675 := Own.step h674 hs623 (Dj.symm dj619) u624 mem652
        have mem676 : Ms (ob (.slice A525 ((idecFin s2).1).length c526)) M630 := (fun k h => hsub634 k (mem652 k h))
        have h677 := Own.step h675 hs632 (Dj.symm dj572) u633 mem676
        refine Loop.again _ _ ?_ ?_ ⟨mou4 + 1, ou4 ++ ((idecFin s2).1[mou4].out), M630, A627, (ou4 ++ ((idecFin s2).1[mou4].out)).length, c628, rfl, rfl, (Up.trans hU544 (Up.trans u604 (Up.trans u624 u633))), e639, hs0642, hs0641, h660, h665, h669, h673, hO631, h677, (Own.ms hO631), fr655, dj643, dj645, dj647, dj649, dj651, by omega, by rw [hou4, outs_take_succ hmlou4, List.append_assoc]⟩
        · omega
        · exact .cons (t := 0) rfl (.cons (t := 3) rfl (.cons (t := 4) rfl (.cons (t := 8) rfl (.cons (t := 75) rfl (.cons (t := 76) rfl (.cons (t := 77) rfl (.nil _)))))))
      · have hmeou4 : mou4 = (idecFin s2).1.length := by omega
        have hall4 : ou4 = (sclP l) := by
          rw [hou4, hmeou4, List.take_length, hou, ← outs_append]
          exact hba.1
        refine CW.exit ?_
        refine CW.seq ?_
        refine CW.region ?_
        refine WL.move rfl ?_
        refine WL.move rfl ?_
        refine WL.call Try.func47 rfl rfl (.cons rfl (.nil)) (scalars_spec _ _ hm546 (h1.up (Up.trans u4 (Up.trans hu14 (Up.trans hu29 (Up.trans (NewR.up hP41) (Up.trans hU56 (Up.trans (PutR.up hP156) (Up.trans u176 (Up.trans hU198 (Up.trans (PutR.up hP527) hU544))))))))))) (fun _ w678 hr679 => ?_)
        obtain ⟨M680, hP681⟩ := hr679
        obtain ⟨A682, c683, rfl⟩ := Own.form hP681.own
        have e684 := Stp.ext hE545 (NewR.ext hP681)
        have hm685 := Up.mb (NewR.up hP681)
        have hs0686 : Ms M M680 := fun k h => (NewR.ms hP681) k (hsb548 k h)
        have dj687 := Dj.fresh (T := S151) (NewR.new hP681) mem573 hm546
        have dj688 := Dj.fresh (T := S522) (NewR.new hP681) mem574 hm546
        have dj689 := Dj.fresh (T := (ob (.slice A42 (sclP l).length c43))) (NewR.new hP681) mem575 hm546
        have dj690 := Dj.fresh (T := (ob (.slice A170 (T1 ++ ((iencFin s1).1)).length c171))) (NewR.new hP681) mem577 hm546
        have dj691 := Dj.fresh (T := (ob (.slice A560 ou4.length c562))) (NewR.new hP681) mem566 hm546
        have dj692 := Dj.fresh (T := (ob (.slice A525 ((idecFin s2).1).length c526))) (NewR.new hP681) mem580 hm546
        have fr693 := Ge.le (NewR.new hP681) (Stp.size hE545)
        have h694 := Own.ext h559 (NewR.ext hP681) (NewR.up hP681) (NewR.ms hP681)
        refine WL.call Try.func39 rfl rfl (.cons rfl (.cons rfl (.nil))) (Units_spec _ _ (MB.none _) (Own.read00 h694 hm685) (Own.read00 (NewR.own hP681) hm685)) (fun _ w695 hr696 => ?_)
        obtain ⟨rfl, he697⟩ := hr696
        have u698 := Ext.up he697 hm685
        have e699 := Stp.ext e684 he697
        have hm700 := Up.mb u698
        refine WL.move rfl ?_
        have hev701 : (ou4 = sclP l) := hall4
        refine WL.gtake rfl rfl (decide_eq_true hev701) ?_
        refine WL.move rfl ?_
        refine WL.gtake rfl rfl (decide_eq_true hev701) ?_
        have mem702 : Ms S522 M680 := (fun k h => (NewR.ms hP681) k (mem574 k h))
        have h703 := IDecR.step h552 (NewR.ext hP681) (fun _ _ h => h) (NewR.up hP681) mem702
        have h704 := IDecR.step h703 he697 (fun _ _ h => h) u698 mem702
        refine WL.call Try.func50 rfl rfl (.cons rfl (.nil)) (idecScript_spec _ _ hm700 h704) (fun _ w705 hr706 => ?_)
        obtain ⟨rfl, he707⟩ := hr706
        have u708 := Ext.up he707 hm700
        have e709 := Stp.ext e699 he707
        have hm710 := Up.mb u708
        refine WL.gtake rfl rfl (decide_eq_true hev701) ?_
        refine WL.move rfl ?_
        refine WL.gtake rfl rfl (decide_eq_true hev701) ?_
        have mem711 : Ms S151 M680 := (fun k h => (NewR.ms hP681) k (mem573 k h))
        have h712 := IEncR.step h549 (NewR.ext hP681) (fun _ _ h => h) (NewR.up hP681) mem711
        have h713 := IEncR.step h712 he697 (fun _ _ h => h) u698 mem711
        have h714 := IEncR.step h713 he707 (fun _ _ h => h) u708 mem711
        refine WL.call Try.func51 rfl rfl (.cons rfl (.nil)) (iencScript_spec _ _ hm710 h714) (fun _ w715 hr716 => ?_)
        obtain ⟨rfl, he717⟩ := hr716
        have u718 := Ext.up he717 hm710
        have e719 := Stp.ext e709 he717
        have hm720 := Up.mb u718
        refine WL.gtake rfl rfl (decide_eq_true hev701) ?_
        refine WL.eql rfl rfl ?_
        refine WL.pickT (congrArg (fun b => some (Value.bool b)) (decide_eq_true hev701)) rfl ?_
        refine WL.assign rfl ?_
        refine WL.nil ?_
        refine CW.ret ?_
        refine Ret.one rfl rfl ?_
        exact ⟨by first | rfl | exact congrArg Value.bool (decide_eq_true hsc2), e719⟩
end Go.Proofs.Ytgbajkdomcmblaa
