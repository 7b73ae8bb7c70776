/- The law IsciiSwitch answers true: a walk. -/
import Derived.Test.YtgbajkdomcmblaaIscM
namespace Go.Proofs.Ytgbajkdomcmblaa
open Go Go.RowKit Vc
set_option linter.unusedVariables false
set_option linter.unusedSimpArgs false
private theorem mixed : Try.prog.follows .mixedOrders = true := by kernel_rfl
private theorem fo58_1 : fieldOff Try.prog 58 1 = some 1 := by kernel_rfl
private theorem fo58_2 : fieldOff Try.prog 58 2 = some 2 := by kernel_rfl
private theorem es29 : elemSize Try.prog 29 = some 1 := by kernel_rfl
private theorem es55 : elemSize Try.prog 55 = some 4 := by kernel_rfl
private theorem sc3 : scalar Try.prog 3 = true := by kernel_rfl
private theorem sc29 : scalar Try.prog 29 = true := by kernel_rfl
private theorem ag58 : aggSize Try.prog 58 = some 4 := by kernel_rfl
private theorem ti58 : tinfo Try.prog 58 = some (some (.agg #[.int .i64 0, .int .i64 0, .slice none 0 0, .int .i64 0]), 4, 48) := by kernel_rfl
theorem lawEnc_facts (l : List Int) : (lawEnc l).ou.length ≤ 2 * l.length ∧ ∀ x ∈ (lawEnc l).ou, x.out.length ≤ 8 := by
  obtain ⟨f1, f2, f3, f4, f5, f6⟩ := lrun_facts l
  have hq : lawEnc l = restP (lrun l 0 l0) := rfl
  rw [hq]
  generalize lrun l 0 l0 = q at *
  have h1 := encP_len q.us
  simp only [restP]
  refine ⟨by rw [List.length_append, List.length_map]; omega, ?_⟩
  intro x hx
  rw [List.mem_append, List.mem_map] at hx
  rcases hx with hx | ⟨y, hy, rfl⟩
  · exact f6 x hx
  · exact join_outs indR 8 _ _ (batch_facts indR_good.turn q.us 0).2 y hy
theorem getD_zero {l : List Int} (h : 0 < l.length) : l.getD 0 0 = l[0] := by simp [List.getD, List.getElem?_eq_getElem h]
theorem sw_idx {x : PTok} {s : Int} (h0 : 0 ≤ s) (h9 : s < 9) (h : x.out = [239, codesL.getD s.toNat 0]) : swIdx x = s := by
  have := (sw_tok 0 h0 h9).2
  unfold swIdx at *
  rw [h]; exact this
theorem codes_eq {x : PTok} {m : Nat} {s : Int} (hm : m < codesL.length) (h0 : 0 ≤ s) (h9 : s < 9) (h : x.out = [239, codesL.getD s.toNat 0]) {h1 : 1 < x.out.length} : codesL[m] = x.out[1] ↔ (m : Int) = s := by
  have hk : ∀ a, a < 9 → ∀ b, b < 9 → (codesL.getD a 0 = codesL.getD b 0 ↔ a = b) := by decide
  have h2 : x.out[1] = codesL.getD s.toNat 0 := by simp [h]
  have h3 : codesL[m] = codesL.getD m 0 := (codes_get hm).symm
  rw [h2, h3, hk m hm s.toNat (by omega)]
  omega

theorem iswitch_walk (w : World) (M : MS) (hm : MB w M) {Ap1 : Option Addr} {cp1 : Nat} {l : List Int} (h1 : SlD ByteR 1 w M Ap1 cp1 l) :
    Fc Try.prog 13 #[.slice Ap1 l.length cp1] w fun v w' => v = .bool true ∧ Ext w w' := by
  have e0 := Stp.refl w (NoM : MS)
  have hs00 : Ms M M := fun _ h => h
  have hlim := h1.lim
  have hbl := scl_len l
  refine Fc.enter (n := 93) [(0, .slice Ap1 l.length cp1)] Try.func13 rfl rfl (Nat.le_of_ble_eq_true rfl) (.cons rfl (.nil _)) ?_
  refine CW.seq ?_
  refine CW.region ?_
  refine WL.assign rfl ?_
  refine WL.nil ?_
  refine CW.seq ?_
  refine CW.seq ?_
  refine CW.region ?_
  refine WL.call Try.func40 rfl rfl (.nil) (iawake_spec _ _ hm) (fun _ w1 hr2 => ?_)
  obtain ⟨rfl, he3⟩ := hr2
  have u4 := Ext.up he3 hm
  have e5 := Stp.ext e0 he3
  have hm6 := Up.mb u4
  refine WL.not_ rfl ?_
  refine WL.nil ?_
  refine CW.condF rfl ?_
  refine CW.skip ?_
  refine CW.seq ?_
  refine CW.region ?_
  refine WL.call Try.func41 rfl rfl (.nil) (iencode_spec _ _ hm6) (fun _ w7 hr8 => ?_)
  obtain ⟨g9, rfl, M10, S11, hI12, hnw13, hu14, hms15, he16⟩ := hr8
  have hI17 : IEncR g9 w7 M10 S11 enc0 := hI12
  have e18 := Stp.ext e5 he16
  have hm19 := Up.mb hu14
  have hs020 : Ms M M10 := fun k h => hms15 k (hs00 k h)
  have fr21 := Ge.le hnw13 (Stp.size e5)
  refine WL.assign rfl ?_
  refine WL.nil ?_
  refine CW.seq ?_
  refine CW.seq ?_
  refine CW.region ?_
  refine WL.move rfl ?_
  refine WL.rn (Rn.pnil Try.underlying72 rfl) ?_
  refine WL.nil ?_
  refine CW.condF rfl ?_
  refine CW.skip ?_
  refine CW.seq ?_
  refine CW.region ?_
  refine WL.assign rfl ?_
  refine WL.nil ?_
  refine CW.seq ?_
  refine CW.seq ?_
  refine CW.region ?_
  refine WL.move rfl ?_
  refine WL.call Try.func47 rfl rfl (.cons rfl (.nil)) (scalars_spec _ _ hm19 (h1.up (Up.trans u4 hu14))) (fun _ w22 hr23 => ?_)
  obtain ⟨M24, hP25⟩ := hr23
  obtain ⟨A26, c27, rfl⟩ := Own.form hP25.own
  have e28 := Stp.ext e18 (NewR.ext hP25)
  have hm29 := Up.mb (NewR.up hP25)
  have hs030 : Ms M M24 := fun k h => (NewR.ms hP25) k (hs020 k h)
  have dj31 := Dj.fresh (T := S11) (NewR.new hP25) (IEncR.ms hI17) hm19
  have fr32 := Ge.le (NewR.new hP25) (Stp.size e18)
  refine WL.len Try.underlying29 rfl ?_
  refine WL.move rfl ?_
  refine WL.nil ?_
  refine CW.block ?_
  have hO33 : Own TokR 4 58 w22 M24 0 (.slice none 0 0) [] := Own.nil
  have dj34 : Dj (ob (.slice none 0 0)) S11 := Dj.nil _
  have dj35 : Dj (ob (.slice none 0 0)) (ob (.slice A26 (sclP l).length c27)) := Dj.nil _
  have mem43 : Ms S11 M24 := (fun k h => (NewR.ms hP25) k ((IEncR.ms hI17) k h))
  have h44 := IEncR.step hI17 (NewR.ext hP25) (fun _ _ h => h) (NewR.up hP25) mem43
  refine CW.loop (fun m σ wr0 => ∃ j : Nat, ∃ s1 : IEnc, ∃ T1 : List PTok, ∃ Se : MS, ∃ Mr36 : MS, ∃ A47 : Option Addr, ∃ n48 : Nat, ∃ c49 : Nat, m = (sclP l).length - j ∧ σ = [(3, .pointer (some ⟨g9, 0, none⟩)), (4, .slice A47 n48 c49), (19, .slice A26 ((sclP l).length) c27), (20, .int .i64 ((sclP l).length : Int)), (21, .int .i64 (j : Int))] ∧ (Up w22 M24 wr0 Mr36) ∧ (Stp w wr0 NoM) ∧ (Ms M24 Mr36) ∧ (Ms M Mr36) ∧ (IEncR g9 wr0 Mr36 Se s1) ∧ (Own IntR 1 3 wr0 Mr36 0 (.slice A26 ((sclP l).length) c27) (sclP l)) ∧ (Own TokR 4 58 wr0 Mr36 0 (.slice A47 n48 c49) (T1)) ∧ (Ms (Se) Mr36) ∧ (∀ q_, (Se) q_ → w.heap.size ≤ q_) ∧ (Dj (Se) (ob (.slice A26 (sclP l).length c27))) ∧ (Dj (Se) (ob (.slice A47 n48 c49))) ∧ (Ms (ob (.slice A47 n48 c49)) Mr36) ∧ (∀ q_, (ob (.slice A47 n48 c49)) q_ → w.heap.size ≤ q_) ∧ (Dj (ob (.slice A47 n48 c49)) (ob (.slice A26 (sclP l).length c27))) ∧ (j ≤ (sclP l).length) ∧ (runP iencPut ((sclP l).take j) enc0 = (T1, s1))) _ _ (.cons (t := 3) rfl (.cons (t := 4) rfl (.cons (t := 19) rfl (.cons (t := 20) rfl (.cons (t := 21) rfl (.nil _)))))) ⟨0, enc0, [], S11, M24, none, 0, 0, rfl, rfl, Up.refl hm29, e28, fun _ h => h, hs030, h44, (NewR.own hP25), hO33, mem43, fr21, (Dj.symm dj31), (Dj.symm dj34), (Ms.nil M24), (Fr.nil w.heap.size), dj35, by omega, rfl⟩ ?_
  rintro m _ wr0 ⟨j, s1, T1, Se, Mr36, A47, n48, c49, rfl, rfl, hU37, hE38, hsp40, hsb41, h42, h45, h46, mem50, wr51, dj52, dj53, mem54, wr55, dj56, hj, hr1⟩
  have hm39 := Up.mb hU37
  have mem57 : Ms (ob (.slice A26 (sclP l).length c27)) Mr36 := (fun k h => hsp40 k ((Own.ms (NewR.own hP25)) k h))
  have hlen58 := Own.len h45
  obtain rfl := Own.n h46
  have hlen59 := Own.len h46
  have hf1 := ienc_facts hr1
  have htl : ((sclP l).take j).length = j := by rw [List.length_take]; omega
  refine CW.seq ?_
  refine CW.region ?_
  refine WL.lss rfl rfl ?_
  refine WL.nil ?_
  refine CW.seq ?_
  refine CW.condP rfl (fun hc60 => ?_) (fun hc60 => ?_)
  · have hjl : j < (sclP l).length := by omega
    have hE := ienc_put_facts hr1 (sclP l)[j] (by omega)
    refine CW.skip ?_
    refine CW.seq ?_
    refine CW.block ?_
    refine CW.seq ?_
    refine CW.region ?_
    have hlt61 : j < (sclP l).length := by omega
    obtain ⟨ad62, cs63, hA64, hs65, hat66, hR67⟩ := Own.get h45 hlt61
    rw [show _ = _ from hR67.1] at hat66
    have hhR67 := hR67.2; simp only [I64] at hhR67
    refine WL.idx es29 rfl rfl hA64 (by omega) (by omega) ?_
    refine WL.load sc3 rfl (At.cell hat66 0 _ rfl) ?_
    refine WL.assign rfl ?_
    refine WL.nil ?_
    refine CW.region ?_
    refine WL.move rfl ?_
    refine WL.move rfl ?_
    refine WL.move rfl ?_
    refine WL.call Try.func43 rfl rfl (.cons rfl (.cons rfl (.nil))) (iencPut_spec _ _ hm39 h42 (ienc_ok hr1 (by omega)) ((sclP l)[j]) (by simp only [I64]; omega)) (fun _ w68 hr69 => ?_)
    obtain ⟨M70, S71, hP72, hM73⟩ := hr69
    have hP76 : PutR wr0 Mr36 Se w68 M70 S71 _ ((iencPut s1 ((sclP l)[j])).1) := hP72
    obtain ⟨A74, c75, rfl⟩ := Own.form hP76.own
    have hM77 : IEncR g9 w68 M70 S71 (iencPut s1 ((sclP l)[j])).2 := hM73
    have e78 := Stp.wr hE38 (PutR.stp hP76) (Wr.ofFr NoM wr51)
    have hm79 := Up.mb (PutR.up hP76)
    have hs080 : Ms M M70 := fun k h => (PutR.ms hP76) k (hsb41 k h)
    have hs081 : Ms M24 M70 := fun k h => (PutR.ms hP76) k (hsp40 k h)
    have dj82 := Dj.grow dj52 (PutR.wr hP76) mem57 hm39
    have dj83 := Dj.grow dj53 (PutR.wr hP76) mem54 hm39
    have fr85 := Ge.grow wr51 (PutR.wr hP76) (Stp.size hE38)
    have dj86 := Dj.fresh (T := (ob (.slice A26 (sclP l).length c27))) (PutR.new hP76) mem57 hm39
    have dj87 := Dj.fresh (T := (ob (.slice A47 T1.length c49))) (PutR.new hP76) mem54 hm39
    have fr88 := Ge.le (PutR.new hP76) (Stp.size hE38)
    have mem98 : Ms (ob (.slice A47 T1.length c49)) M70 := (fun k h => (PutR.ms hP76) k (mem54 k h))
    have h99 := Own.step h46 (PutR.stp hP76) (Dj.symm dj53) (PutR.up hP76) mem98
    refine WL.appendR Try.underlying55 ti58 rfl (by decide) rfl rfl h99 (Own.atl (PutR.own hP76)) hm79 (by decide) (by first | omega | (simp; omega)) (fun A89 c90 w91 M92 hO93 hs94 u95 hsub96 hnew97 => ?_)
    have e100 := Stp.wr e78 hs94 (Wr.ofFr NoM wr55)
    have hm101 := Up.mb u95
    have hs0102 : Ms M M92 := fun k h => hsub96 k (hs080 k h)
    have hs0103 : Ms M24 M92 := fun k h => hsub96 k (hs081 k h)
    have dj104 := Dj.grow (Dj.symm dj83) hnew97 (IEncR.ms hM77) hm79
    have mem106 : Ms (ob (.slice A26 (sclP l).length c27)) M70 := (fun k h => (PutR.ms hP76) k (mem57 k h))
    have dj105 := Dj.grow dj56 hnew97 mem106 hm79
    have dj107 := Dj.grow (Dj.symm dj87) hnew97 (Own.ms (PutR.own hP76)) hm79
    have fr109 := Ge.grow wr55 hnew97 (Stp.size e78)
    refine WL.assign rfl ?_
    refine WL.nil ?_
    refine CW.region ?_
    refine WL.add rfl rfl (by omega) ?_
    refine WL.move rfl ?_
    refine WL.nil ?_
    have mem110 : Ms S71 M92 := (fun k h => hsub96 k ((IEncR.ms hM77) k h))
    have h111 := IEncR.step hM77 hs94 dj83 u95 mem110
    have h112 := Own.step h45 (PutR.stp hP76) (Dj.symm dj52) (PutR.up hP76) mem106
    have mem113 : Ms (ob (.slice A26 (sclP l).length c27)) M92 := (fun k h => hsub96 k (mem106 k h))
    have h114 := Own.step h112 hs94 (Dj.symm dj56) u95 mem113
    refine Loop.again _ _ ?_ ?_ ⟨j + 1, (iencPut s1 (sclP l)[j]).2, T1 ++ (iencPut s1 (sclP l)[j]).1, S71, M92, A89, (T1 ++ ((iencPut s1 ((sclP l)[j])).1)).length, c90, rfl, rfl, (Up.trans hU37 (Up.trans (PutR.up hP76) u95)), e100, hs0103, hs0102, h111, h114, hO93, mem110, fr85, dj82, (Dj.symm dj104), (Own.ms hO93), fr109, dj105, by omega, run_take_succ _ hjl hr1⟩
    · omega
    · exact .cons (t := 3) rfl (.cons (t := 4) rfl (.cons (t := 19) rfl (.cons (t := 20) rfl (.cons (t := 21) rfl (.nil _)))))
  · have hje : j = (sclP l).length := by omega
    have hrE : runP iencPut (sclP l) enc0 = (T1, s1) := by rw [← hr1, hje, List.take_length]
    have hF := ienc_fin_facts hrE (by omega)
    have hall : allP iencPut iencFin (sclP l) enc0 = ((T1 ++ (iencFin s1).1), (iencFin s1).2) := by simp only [allP, hrE]
    have hai := all_ienc (sclP l)
    rw [hall] at hai
    have hsame : (T1 ++ (iencFin s1).1) = (lawEnc (sclP l)).ou := hai.1
    have hscr : (iencFin s1).2.sc = (lawEnc (sclP l)).sc := hai.2.1
    have hpf := lawEnc_facts (sclP l)
    rw [← hsame] at hpf
    have hpl2 := hpf.1
    rw [List.length_append] at hpl2
    have hpo := hpf.2
    obtain ⟨hsw1, hsw2, hsw3⟩ := switch_law (sclP l)
    rw [← hsame] at hsw1 hsw2 hsw3
    refine CW.exit ?_
    refine CW.seq ?_
    refine CW.region ?_
    refine WL.move rfl ?_
    refine WL.move rfl ?_
    refine WL.call Try.func44 rfl rfl (.cons rfl (.nil)) (iencEnd_spec _ _ hm39 h42 (n := 0) (ienc_ok hrE (by omega)).1) (fun _ w115 hr116 => ?_)
    obtain ⟨M117, S118, hP119, hM120⟩ := hr116
    have hP123 : PutR wr0 Mr36 Se w115 M117 S118 _ ((iencFin s1).1) := hP119
    obtain ⟨A121, c122, rfl⟩ := Own.form hP123.own
    have hM124 : IEncR g9 w115 M117 S118 (iencFin s1).2 := hM120
    have e125 := Stp.wr hE38 (PutR.stp hP123) (Wr.ofFr NoM wr51)
    have hm126 := Up.mb (PutR.up hP123)
    have hs0127 : Ms M M117 := fun k h => (PutR.ms hP123) k (hsb41 k h)
    have dj128 := Dj.grow dj52 (PutR.wr hP123) mem57 hm39
    have dj129 := Dj.grow dj53 (PutR.wr hP123) mem54 hm39
    have fr131 := Ge.grow wr51 (PutR.wr hP123) (Stp.size hE38)
    have dj132 := Dj.fresh (T := (ob (.slice A26 (sclP l).length c27))) (PutR.new hP123) mem57 hm39
    have dj133 := Dj.fresh (T := (ob (.slice A47 T1.length c49))) (PutR.new hP123) mem54 hm39
    have fr134 := Ge.le (PutR.new hP123) (Stp.size hE38)
    have mem144 : Ms (ob (.slice A47 T1.length c49)) M117 := (fun k h => (PutR.ms hP123) k (mem54 k h))
    have h145 := Own.step h46 (PutR.stp hP123) (Dj.symm dj53) (PutR.up hP123) mem144
    refine WL.appendR Try.underlying55 ti58 rfl (by decide) rfl rfl h145 (Own.atl (PutR.own hP123)) hm126 (by decide) (by first | omega | (simp; omega)) (fun A135 c136 w137 M138 hO139 hs140 u141 hsub142 hnew143 => ?_)
    have e146 := Stp.wr e125 hs140 (Wr.ofFr NoM wr55)
    have hm147 := Up.mb u141
    have hs0148 : Ms M M138 := fun k h => hsub142 k (hs0127 k h)
    have dj149 := Dj.grow (Dj.symm dj129) hnew143 (IEncR.ms hM124) hm126
    have mem151 : Ms (ob (.slice A26 (sclP l).length c27)) M117 := (fun k h => (PutR.ms hP123) k (mem57 k h))
    have dj150 := Dj.grow dj56 hnew143 mem151 hm126
    have dj152 := Dj.grow (Dj.symm dj133) hnew143 (Own.ms (PutR.own hP123)) hm126
    have fr154 := Ge.grow wr55 hnew143 (Stp.size e125)
    refine WL.assign rfl ?_
    refine WL.nil ?_
    refine CW.seq ?_
    refine CW.region ?_
    refine WL.assign rfl ?_
    refine WL.nil ?_
    refine CW.seq ?_
    refine CW.seq ?_
    refine CW.region ?_
    refine WL.move rfl ?_
    refine WL.len Try.underlying55 rfl ?_
    refine WL.move rfl ?_
    refine WL.nil ?_
    refine CW.block ?_
    have mem162 : Ms S118 M138 := (fun k h => hsub142 k ((IEncR.ms hM124) k h))
    have h163 := IEncR.step hM124 hs140 dj129 u141 mem162
    refine CW.loop (fun m σ wr1 => ∃ i : Nat, ∃ nw : Int, ∃ Mr155 : MS, m = (T1 ++ (iencFin s1).1).length - i ∧ σ = [(3, .pointer (some ⟨g9, 0, none⟩)), (4, .slice A135 ((T1 ++ ((iencFin s1).1)).length) c136), (7, .int .i64 nw), (35, .slice A135 ((T1 ++ ((iencFin s1).1)).length) c136), (36, .int .i64 ((T1 ++ ((iencFin s1).1)).length : Int)), (37, .int .i64 (i : Int))] ∧ (Up w137 M138 wr1 Mr155) ∧ (Stp w wr1 NoM) ∧ (Ms M138 Mr155) ∧ (Ms M Mr155) ∧ (IEncR g9 wr1 Mr155 S118 (iencFin s1).2) ∧ (Own TokR 4 58 wr1 Mr155 0 (.slice A135 ((T1 ++ ((iencFin s1).1)).length) c136) (T1 ++ ((iencFin s1).1))) ∧ (i ≤ (T1 ++ (iencFin s1).1).length) ∧ (nw = nowF ((T1 ++ (iencFin s1).1).take i))) _ _ (.cons (t := 3) rfl (.cons (t := 4) rfl (.cons (t := 7) rfl (.cons (t := 35) rfl (.cons (t := 36) rfl (.cons (t := 37) rfl (.nil _))))))) ⟨0, 0, M138, rfl, rfl, Up.refl hm147, e146, fun _ h => h, hs0148, h163, hO139, by omega, rfl⟩ ?_
    rintro m _ wr1 ⟨i, nw, Mr155, rfl, rfl, hU156, hE157, hsp159, hsb160, h161, h164, hi, hnw⟩
    have hm158 := Up.mb hU156
    have mem165 : Ms S118 Mr155 := (fun k h => hsp159 k (mem162 k h))
    have mem166 : Ms (ob (.slice A135 (T1 ++ ((iencFin s1).1)).length c136)) Mr155 := (fun k h => hsp159 k ((Own.ms hO139) k h))
    have hlen167 := Own.len h164
    have hpl3 : (T1 ++ (iencFin s1).1).length = T1.length + (iencFin s1).1.length := List.length_append
    refine CW.seq ?_
    refine CW.region ?_
    refine WL.lss rfl rfl ?_
    refine WL.nil ?_
    refine CW.seq ?_
    refine CW.condP rfl (fun hc168 => ?_) (fun hc168 => ?_)
    · have hil : i < (T1 ++ (iencFin s1).1).length := by omega
      have hnx : nowF ((T1 ++ (iencFin s1).1).take (i + 1)) = nowStep (nowF ((T1 ++ (iencFin s1).1).take i)) (T1 ++ (iencFin s1).1)[i] := by rw [List.take_succ_eq_append_getElem hil, nowF_append]; rfl
      have hio := hpo _ (List.getElem_mem hil)
      refine CW.skip ?_
      refine CW.seq ?_
      refine CW.block ?_
      refine CW.seq ?_
      refine CW.region ?_
      refine WL.move rfl ?_
      have hlt169 : i < (T1 ++ ((iencFin s1).1)).length := by omega
      obtain ⟨ad170, cs171, hA172, hs173, hat174, hR175⟩ := Own.get h164 hlt169
      rw [show (T1 ++ ((iencFin s1).1))[i] = (T1 ++ (iencFin s1).1)[i] from rfl] at hR175
      obtain ⟨_, hx178, ⟨A176, c177, rfl, hD179⟩, hi180, hi181, hi182⟩ := hR175
      rw [hx178] at hat174
      have hl183 := SlD.lim hD179
      simp only [I64] at hi180 hi181 hi182
      refine WL.idx es55 rfl rfl hA172 (by omega) (by omega) ?_
      refine WL.loadAgg (M := fun _ => False) (cs := [.int .i64 ((T1 ++ (iencFin s1).1)[i].at_), .int .i64 ((T1 ++ (iencFin s1).1)[i].len), .slice A176 ((T1 ++ (iencFin s1).1)[i].out.length) c177, .int .i64 ((T1 ++ (iencFin s1).1)[i].err)]) ag58 rfl hat174 ?_
      refine WL.alloc (cs := [.int .i64 0, .int .i64 0, .slice none 0 0, .int .i64 0]) ti58 rfl (fun g184 w185 hg186 hb187 he188 => ?_)
      obtain ⟨M189, u190, mem191, hsub192, hinv193⟩ := Ext.addVar he188 hm158 hg186 hb187
      have ge194 : ∀ q_, vb g184 q_ → wr1.heap.size ≤ q_ := fun q_ hq_ => by rw [hq_]; exact hg186
      have mem195 := Ms.one mem191
      have e196 := Stp.ext hE157 he188
      have hm197 := Up.mb u190
      have hs0198 : Ms M M189 := fun k h => hsub192 k (hsb160 k h)
      have hs0199 : Ms M138 M189 := fun k h => hsub192 k (hsp159 k h)
      have dj200 := Dj.fresh (T := S118) ge194 mem165 hm158
      have dj201 := Dj.fresh (T := (ob (.slice A135 (T1 ++ ((iencFin s1).1)).length c136))) ge194 mem166 hm158
      have fr202 := Ge.le ge194 (Stp.size hE157)
      refine WL.assign rfl ?_
      refine WL.storeAll (vs := [.int .i64 ((T1 ++ (iencFin s1).1)[i].at_), .int .i64 ((T1 ++ (iencFin s1).1)[i].len), .slice A176 ((T1 ++ (iencFin s1).1)[i].out.length) c177, .int .i64 ((T1 ++ (iencFin s1).1)[i].err)]) (by rw [ti58]; rfl) rfl rfl (by simp [Value.oneCell']) hb187 rfl (fun w203 hb204 hs205 => ?_)
      have u206 := Stp.upM hs205 hm197 mem195
      have e207 := Stp.wr e196 hs205 (Wr.ofFr NoM fr202)
      have hm208 := Up.mb u206
      refine WL.nil ?_
      refine CW.seq ?_
      refine CW.seq ?_
      refine CW.region ?_
      refine WL.fieldAddr fo58_2 rfl ?_
      refine WL.load sc29 rfl ((Bk.at_ (M := fun _ => False) hb204 (fun h => h)).cell 2 _ rfl) ?_
      refine WL.len Try.underlying29 rfl ?_
      refine WL.neq rfl rfl ?_
      refine WL.move rfl ?_
      by_cases hg209 : ((T1 ++ (iencFin s1).1)[i].out.length : Int) ≠ 2
      · refine WL.gskip rfl rfl (decide_eq_true hg209) ?_
        refine WL.gskip rfl rfl (decide_eq_true hg209) ?_
        refine WL.gskip rfl rfl (decide_eq_true hg209) ?_
        refine WL.gskip rfl rfl (decide_eq_true hg209) ?_
        refine WL.gskip rfl rfl (decide_eq_true hg209) ?_
        refine WL.pickT (congrArg (fun b => some (Value.bool b)) (decide_eq_true hg209)) rfl ?_
        refine WL.nil ?_
        refine CW.condT rfl ?_
        refine CW.exit ?_
        refine CW.region ?_
        refine WL.add rfl rfl (by omega) ?_
        refine WL.move rfl ?_
        refine WL.nil ?_
        have hns : isSw (T1 ++ (iencFin s1).1)[i] = false := by unfold isSw; rw [Bool.and_eq_false_iff, decide_eq_false_iff_not, decide_eq_false_iff_not]; left; omega
        have hnw2 : nowF ((T1 ++ (iencFin s1).1).take (i + 1)) = nw := by rw [hnx]; unfold nowStep; rw [hns, if_neg (by simp), hnw]
        have mem210 : Ms S118 M189 := (fun k h => hsub192 k (mem165 k h))
        have h211 := IEncR.step h161 he188 (fun _ _ h => h) u190 mem210
        have h212 := IEncR.step h211 hs205 (Dj.symm dj200) u206 mem210
        have h213 := Own.ext h164 he188 u190 hsub192
        have mem214 : Ms (ob (.slice A135 (T1 ++ ((iencFin s1).1)).length c136)) M189 := (fun k h => hsub192 k (mem166 k h))
        have h215 := Own.step h213 hs205 (Dj.symm dj201) u206 mem214
        refine Loop.again _ _ ?_ ?_ ⟨i + 1, nw, M189, rfl, rfl, (Up.trans hU156 (Up.trans u190 u206)), e207, hs0199, hs0198, h212, h215, by omega, hnw2.symm⟩
        · omega
        · exact .cons (t := 3) rfl (.cons (t := 4) rfl (.cons (t := 7) rfl (.cons (t := 35) rfl (.cons (t := 36) rfl (.cons (t := 37) rfl (.nil _))))))
      · refine WL.gtake rfl rfl (decide_eq_false hg209) ?_
        refine WL.fieldAddr fo58_2 rfl ?_
        refine WL.gtake rfl rfl (decide_eq_false hg209) ?_
        refine WL.load sc29 rfl ((Bk.at_ (M := fun _ => False) hb204 (fun h => h)).cell 2 _ rfl) ?_
        refine WL.gtake rfl rfl (decide_eq_false hg209) ?_
        have hlt216 : 0 < ((T1 ++ (iencFin s1).1)[i].out).length := by omega
        obtain ⟨ad217, cs218, hA219, hs220, hat221, hR222⟩ := SlD.get (hD179.up (Up.trans u190 u206)) (List.getElem?_eq_getElem hlt216)
        rw [show _ = _ from hR222.1] at hat221
        have hhR222 := hR222.2; simp only [I64] at hhR222
        refine WL.idx es29 rfl rfl hA219 (by omega) (by omega) ?_
        refine WL.gtake rfl rfl (decide_eq_false hg209) ?_
        refine WL.load sc3 rfl (hat221.cell 0 _ rfl) ?_
        refine WL.gtake rfl rfl (decide_eq_false hg209) ?_
        refine WL.neq rfl rfl ?_
        refine WL.pickF (congrArg (fun b => some (Value.bool b)) (decide_eq_false hg209)) rfl ?_
        refine WL.nil ?_
        refine CW.condP rfl (fun hc223 => ?_) (fun hc223 => ?_)
        · refine CW.exit ?_
          refine CW.region ?_
          refine WL.add rfl rfl (by omega) ?_
          refine WL.move rfl ?_
          refine WL.nil ?_
          have hns : isSw (T1 ++ (iencFin s1).1)[i] = false := by unfold isSw; rw [Bool.and_eq_false_iff, decide_eq_false_iff_not, decide_eq_false_iff_not]; right; rw [getD_zero (by omega)]; omega
          have hnw2 : nowF ((T1 ++ (iencFin s1).1).take (i + 1)) = nw := by rw [hnx]; unfold nowStep; rw [hns, if_neg (by simp), hnw]
          have mem224 : Ms S118 M189 := (fun k h => hsub192 k (mem165 k h))
          have h225 := IEncR.step h161 he188 (fun _ _ h => h) u190 mem224
          have h226 := IEncR.step h225 hs205 (Dj.symm dj200) u206 mem224
          have h227 := Own.ext h164 he188 u190 hsub192
          have mem228 : Ms (ob (.slice A135 (T1 ++ ((iencFin s1).1)).length c136)) M189 := (fun k h => hsub192 k (mem166 k h))
          have h229 := Own.step h227 hs205 (Dj.symm dj201) u206 mem228
          refine Loop.again _ _ ?_ ?_ ⟨i + 1, nw, M189, rfl, rfl, (Up.trans hU156 (Up.trans u190 u206)), e207, hs0199, hs0198, h226, h229, by omega, hnw2.symm⟩
          · omega
          · exact .cons (t := 3) rfl (.cons (t := 4) rfl (.cons (t := 7) rfl (.cons (t := 35) rfl (.cons (t := 36) rfl (.cons (t := 37) rfl (.nil _))))))
        · have hisw : isSw (T1 ++ (iencFin s1).1)[i] = true := by unfold isSw; rw [Bool.and_eq_true, decide_eq_true_eq, decide_eq_true_eq]; exact ⟨by omega, by rw [getD_zero (by omega)]; omega⟩
          obtain ⟨sw, h0s, h9s, hout, hne, hlen⟩ := hsw1 i hil hisw
          have hlast := hsw3 i hil hisw
          have hne2 : sw ≠ nw := by rw [hnw]; exact hne
          refine CW.skip ?_
          refine CW.seq ?_
          refine CW.region ?_
          refine WL.assign rfl ?_
          refine WL.nil ?_
          refine CW.seq ?_
          refine CW.seq ?_
          refine CW.region ?_
          refine WL.call Try.func45 rfl rfl (.nil) (codes_spec _ _ hm208) (fun _ w233 hr234 => ?_)
          obtain ⟨⟨A230, c231, rfl, hD232⟩, he235⟩ := hr234
          have u236 := Ext.up he235 hm208
          have e237 := Stp.ext e207 he235
          have hm238 := Up.mb u236
          refine WL.len Try.underlying29 rfl ?_
          refine WL.move rfl ?_
          refine WL.nil ?_
          refine CW.block ?_
          have mem246 : Ms S118 M189 := (fun k h => hsub192 k (mem165 k h))
          have h247 := IEncR.step h161 he188 (fun _ _ h => h) u190 mem246
          have h248 := IEncR.step h247 hs205 (Dj.symm dj200) u206 mem246
          have h249 := IEncR.step h248 he235 (fun _ _ h => h) u236 mem246
          have h251 := Own.ext h164 he188 u190 hsub192
          have mem252 : Ms (ob (.slice A135 (T1 ++ ((iencFin s1).1)).length c136)) M189 := (fun k h => hsub192 k (mem166 k h))
          have h253 := Own.step h251 hs205 (Dj.symm dj201) u206 mem252
          have h254 := Own.ext h253 he235 u236 (fun _ h => h)
          have h256 := Bk.ext hb204 he235
          refine CW.loop (fun m σ wr2 => ∃ mq : Nat, ∃ at_ : Int, ∃ Mr239 : MS, m = 9 - mq ∧ σ = [(3, .pointer (some ⟨g9, 0, none⟩)), (4, .slice A135 ((T1 ++ ((iencFin s1).1)).length) c136), (7, .int .i64 nw), (8, .int .i64 (i : Int)), (9, .pointer (some ⟨g184, 0, none⟩)), (10, .int .i64 at_), (35, .slice A135 ((T1 ++ ((iencFin s1).1)).length) c136), (36, .int .i64 ((T1 ++ ((iencFin s1).1)).length : Int)), (37, .int .i64 (i : Int)), (53, .slice A230 codesL.length c231), (54, .int .i64 (codesL.length : Int)), (55, .int .i64 (mq : Int))] ∧ (Up w233 M189 wr2 Mr239) ∧ (Stp w wr2 NoM) ∧ (Ms M189 Mr239) ∧ (Ms M Mr239) ∧ (IEncR g9 wr2 Mr239 S118 (iencFin s1).2) ∧ (Own TokR 4 58 wr2 Mr239 0 (.slice A135 ((T1 ++ ((iencFin s1).1)).length) c136) (T1 ++ ((iencFin s1).1))) ∧ (Bk wr2 g184 58 [.int .i64 ((T1 ++ (iencFin s1).1)[i].at_), .int .i64 ((T1 ++ (iencFin s1).1)[i].len), .slice A176 ((T1 ++ (iencFin s1).1)[i].out.length) c177, .int .i64 ((T1 ++ (iencFin s1).1)[i].err)]) ∧ (mq ≤ 9) ∧ ((sw < mq → at_ = sw) ∧ ((mq : Int) ≤ sw → at_ = -1))) _ _ (.cons (t := 3) rfl (.cons (t := 4) rfl (.cons (t := 7) rfl (.cons (t := 8) rfl (.cons (t := 9) rfl (.cons (t := 10) rfl (.cons (t := 35) rfl (.cons (t := 36) rfl (.cons (t := 37) rfl (.cons (t := 53) rfl (.cons (t := 54) rfl (.cons (t := 55) rfl (.nil _))))))))))))) ⟨0, (-1), M189, rfl, rfl, Up.refl hm238, e237, fun _ h => h, hs0198, h249, h254, h256, by omega, ⟨fun h => by omega, fun _ => rfl⟩⟩ ?_
          rintro m _ wr2 ⟨mq, at_, Mr239, rfl, rfl, hU240, hE241, hsp243, hsb244, h245, h250, h255, hm, hat⟩
          have hm242 := Up.mb hU240
          have hs0257 : Ms M138 Mr239 := fun k h => hsp243 k (hs0199 k h)
          have mem258 : Ms S118 Mr239 := (fun k h => hsp243 k (mem246 k h))
          have mem259 : Ms (ob (.slice A135 (T1 ++ ((iencFin s1).1)).length c136)) Mr239 := (fun k h => hsp243 k (mem252 k h))
          have hlen260 := Own.len h250
          have mem261 : Ms (vb g184) Mr239 := (fun k h => hsp243 k (mem195 k h))
          have hcl : codesL.length = 9 := rfl
          have hat1 := hat.1
          have hat2 := hat.2
          refine CW.seq ?_
          refine CW.region ?_
          refine WL.lss rfl rfl ?_
          refine WL.nil ?_
          refine CW.seq ?_
          refine CW.condP rfl (fun hc262 => ?_) (fun hc262 => ?_)
          · have hml : mq < codesL.length := by omega
            have hce := codes_eq (h1 := by omega) hml h0s h9s hout
            refine CW.skip ?_
            refine CW.seq ?_
            refine CW.block ?_
            refine CW.seq ?_
            refine CW.region ?_
            refine WL.move rfl ?_
            have hlt263 : mq < codesL.length := by omega
            obtain ⟨ad264, cs265, hA266, hs267, hat268, hR269⟩ := SlD.get (hD232.up hU240) (List.getElem?_eq_getElem hlt263)
            rw [show _ = _ from hR269.1] at hat268
            have hhR269 := hR269.2; simp only [I64] at hhR269
            refine WL.idx es29 rfl rfl hA266 (by omega) (by omega) ?_
            refine WL.load sc3 rfl (hat268.cell 0 _ rfl) ?_
            refine WL.assign rfl ?_
            refine WL.assign rfl ?_
            refine WL.nil ?_
            refine CW.seq ?_
            refine CW.region ?_
            refine WL.move rfl ?_
            refine WL.fieldAddr fo58_2 rfl ?_
            refine WL.load sc29 rfl ((Bk.at_ (M := fun _ => False) h255 (fun h => h)).cell 2 _ rfl) ?_
            have hlt270 : 1 < ((T1 ++ (iencFin s1).1)[i].out).length := by omega
            obtain ⟨ad271, cs272, hA273, hs274, hat275, hR276⟩ := SlD.get (hD179.up (Up.trans u190 (Up.trans u206 (Up.trans u236 hU240)))) (List.getElem?_eq_getElem hlt270)
            rw [show _ = _ from hR276.1] at hat275
            have hhR276 := hR276.2; simp only [I64] at hhR276
            refine WL.idx es29 rfl rfl hA273 (by omega) (by omega) ?_
            refine WL.load sc3 rfl (hat275.cell 0 _ rfl) ?_
            refine WL.eql rfl rfl ?_
            refine WL.nil ?_
            refine CW.condP rfl (fun hc277 => ?_) (fun hc277 => ?_)
            · have hms : (mq : Int) = sw := hce.1 hc277
              refine CW.region ?_
              refine WL.move rfl ?_
              refine WL.assign rfl ?_
              refine WL.nil ?_
              refine CW.region ?_
              refine WL.add rfl rfl (by omega) ?_
              refine WL.move rfl ?_
              refine WL.nil ?_
              refine Loop.again _ _ ?_ ?_ ⟨mq + 1, (mq : Int), Mr239, rfl, rfl, hU240, hE241, hsp243, hsb244, h245, h250, h255, by omega, ⟨fun h => by omega, fun h => by omega⟩⟩
              · omega
              · exact .cons (t := 3) rfl (.cons (t := 4) rfl (.cons (t := 7) rfl (.cons (t := 8) rfl (.cons (t := 9) rfl (.cons (t := 10) rfl (.cons (t := 35) rfl (.cons (t := 36) rfl (.cons (t := 37) rfl (.cons (t := 53) rfl (.cons (t := 54) rfl (.cons (t := 55) rfl (.nil _))))))))))))
            · have hms : (mq : Int) ≠ sw := fun h_ => hc277 (hce.2 h_)
              refine CW.skip ?_
              refine CW.region ?_
              refine WL.add rfl rfl (by omega) ?_
              refine WL.move rfl ?_
              refine WL.nil ?_
              refine Loop.again _ _ ?_ ?_ ⟨mq + 1, at_, Mr239, rfl, rfl, hU240, hE241, hsp243, hsb244, h245, h250, h255, by omega, ⟨fun h => by omega, fun h => by omega⟩⟩
              · omega
              · exact .cons (t := 3) rfl (.cons (t := 4) rfl (.cons (t := 7) rfl (.cons (t := 8) rfl (.cons (t := 9) rfl (.cons (t := 10) rfl (.cons (t := 35) rfl (.cons (t := 36) rfl (.cons (t := 37) rfl (.cons (t := 53) rfl (.cons (t := 54) rfl (.cons (t := 55) rfl (.nil _))))))))))))
          · have hme : mq = 9 := by omega
            have hats : at_ = sw := hat1 (by omega)
            refine CW.exit ?_
            refine CW.seq ?_
            refine CW.seq ?_
            refine CW.region ?_
            refine WL.move rfl ?_
            refine WL.lss rfl rfl ?_
            refine WL.move rfl ?_
            have hev278 : ¬ (at_ < 0) := by omega
            refine WL.gtake rfl rfl (decide_eq_false hev278) ?_
            refine WL.move rfl ?_
            refine WL.gtake rfl rfl (decide_eq_false hev278) ?_
            refine WL.move rfl ?_
            refine WL.gtake rfl rfl (decide_eq_false hev278) ?_
            refine WL.eql rfl rfl ?_
            refine WL.pickF (congrArg (fun b => some (Value.bool b)) (decide_eq_false hev278)) rfl ?_
            refine WL.move rfl ?_
            have hev279 : ¬ (at_ = nw) := by omega
            refine WL.gtake rfl rfl (decide_eq_false hev279) ?_
            refine WL.move rfl ?_
            refine WL.gtake rfl rfl (decide_eq_false hev279) ?_
            refine WL.move rfl ?_
            refine WL.gtake rfl rfl (decide_eq_false hev279) ?_
            refine WL.len Try.underlying55 rfl ?_
            refine WL.gtake rfl rfl (decide_eq_false hev279) ?_
            refine WL.sub_ rfl rfl (by omega) ?_
            refine WL.gtake rfl rfl (decide_eq_false hev279) ?_
            refine WL.eql rfl rfl ?_
            refine WL.pickF (congrArg (fun b => some (Value.bool b)) (decide_eq_false hev279)) rfl ?_
            refine WL.move rfl ?_
            have hev280 : ¬ ((i : Int) = ((T1 ++ ((iencFin s1).1)).length : Int) - 1) := by omega
            refine WL.gtake rfl rfl (decide_eq_false hev280) ?_
            refine WL.fieldAddr fo58_1 rfl ?_
            refine WL.gtake rfl rfl (decide_eq_false hev280) ?_
            refine WL.load sc3 rfl ((Bk.at_ (M := fun _ => False) h255 (fun h => h)).cell 1 _ rfl) ?_
            refine WL.gtake rfl rfl (decide_eq_false hev280) ?_
            refine WL.neq rfl rfl ?_
            refine WL.pickF (congrArg (fun b => some (Value.bool b)) (decide_eq_false hev280)) rfl ?_
            refine WL.nil ?_
            have hev281 : ¬ ((T1 ++ (iencFin s1).1)[i].len ≠ 0) := by omega
            refine CW.condP rfl (fun hn => absurd hn hev281) (fun _ => ?_)
            refine CW.skip ?_
            refine CW.region ?_
            refine WL.move rfl ?_
            refine WL.assign rfl ?_
            refine WL.nil ?_
            refine CW.region ?_
            refine WL.add rfl rfl (by omega) ?_
            refine WL.move rfl ?_
            refine WL.nil ?_
            have hnw2 : nowF ((T1 ++ (iencFin s1).1).take (i + 1)) = at_ := by rw [hnx]; unfold nowStep; rw [hisw, if_pos rfl, sw_idx h0s h9s hout]; omega
            refine Loop.again _ _ ?_ ?_ ⟨i + 1, at_, Mr239, rfl, rfl, (Up.trans hU156 (Up.trans u190 (Up.trans u206 (Up.trans u236 hU240)))), hE241, hs0257, hsb244, h245, h250, by omega, hnw2.symm⟩
            · omega
            · exact .cons (t := 3) rfl (.cons (t := 4) rfl (.cons (t := 7) rfl (.cons (t := 35) rfl (.cons (t := 36) rfl (.cons (t := 37) rfl (.nil _))))))
    · have hie : i = (T1 ++ (iencFin s1).1).length := by omega
      have hnE : nw = (iencFin s1).2.sc := by rw [hnw, hie, List.take_length, hsw2, hscr]
      refine CW.exit ?_
      refine CW.seq ?_
      refine CW.region ?_
      refine WL.move rfl ?_
      refine WL.call Try.func51 rfl rfl (.cons rfl (.nil)) (iencScript_spec _ _ hm158 h161) (fun _ w282 hr283 => ?_)
      obtain ⟨rfl, he284⟩ := hr283
      have u285 := Ext.up he284 hm158
      have e286 := Stp.ext hE157 he284
      have hm287 := Up.mb u285
      refine WL.move rfl ?_
      refine WL.eql rfl rfl ?_
      refine WL.assign rfl ?_
      refine WL.nil ?_
      refine CW.ret ?_
      refine Ret.one rfl rfl ?_
      exact ⟨by first | rfl | exact congrArg Value.bool (decide_eq_true hnE.symm), e286⟩
end Go.Proofs.Ytgbajkdomcmblaa
