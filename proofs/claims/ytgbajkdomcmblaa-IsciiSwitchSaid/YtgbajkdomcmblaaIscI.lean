/- The laws IsciiHeld, IsciiDecode, IsciiEncode answer true: walks. -/
import Derived.Test.YtgbajkdomcmblaaIscH
namespace Go.Proofs.Ytgbajkdomcmblaa
open Go Go.RowKit Vc
set_option linter.unusedVariables false
set_option linter.unusedSimpArgs false
private theorem mixed : Try.prog.follows .mixedOrders = true := by kernel_rfl
private theorem es29 : elemSize Try.prog 29 = some 1 := by kernel_rfl
private theorem sc3 : scalar Try.prog 3 = true := by kernel_rfl
theorem bytes_len (l : List Int) : (bytesP l).length ≤ 120 := by
  have := byt_len (l.take 60)
  rw [List.length_take] at this
  unfold bytesP; omega
theorem scl_len (l : List Int) : (sclP l).length ≤ 60 := by unfold sclP; simp; omega
theorem open_one {rs : List PRule} (h : rs.all (fun r => decide (r.inn.length ≤ 2)) = true) {us : List Int} (ho : us = [] ∨ openP rs us = true) : us.length ≤ 1 := by
  rcases ho with rfl | ho
  · simp
  · obtain ⟨r, hr, _, h2⟩ := openP_iff.1 ho
    have := List.all_eq_true.1 h r hr
    rw [decide_eq_true_eq] at this
    omega
theorem idec_held {us : List Int} {T : List PTok} {s : IDec} (h : runP idecPut us dec0 = (T, s)) : s.m.1.length ≤ 1 := open_one (by kernel_rfl) (idec_facts h).2.2.2.2.2.2
theorem ienc_held {us : List Int} {T : List PTok} {s : IEnc} (h : runP iencPut us enc0 = (T, s)) : s.e.wait.length ≤ 1 := open_one (by kernel_rfl) (ienc_facts h).2.2.2.2.2.2.2.2

theorem iheld_walk (w : World) (M : MS) (hm : MB w M) {Ap1 : Option Addr} {cp1 : Nat} {l : List Int} (h1 : SlD ByteR 1 w M Ap1 cp1 l) :
    Fc Try.prog 16 #[.slice Ap1 l.length cp1] w fun v w' => v = .bool true ∧ Ext w w' := by
  have e0 := Stp.refl w (NoM : MS)
  have hs00 : Ms M M := fun _ h => h
  have hlim := h1.lim
  have hbl := bytes_len l
  have hsl := scl_len l
  refine Fc.enter (n := 47) [(0, .slice Ap1 l.length cp1)] Try.func16 rfl rfl (Nat.le_of_ble_eq_true rfl) (.cons rfl (.nil _)) ?_
  refine CW.seq ?_
  refine CW.region ?_
  refine WL.assign rfl ?_
  refine WL.nil ?_
  refine CW.seq ?_
  refine CW.seq ?_
  refine CW.region ?_
  refine WL.call Try.func40 rfl rfl (.nil) (iawake_spec _ _ hm) (fun _ w1 hr2 => ?_)
  obtain ⟨rfl, he3⟩ := hr2
  have u4 := Ext.up he3 hm
  have e5 := Stp.ext e0 he3
  have hm6 := Up.mb u4
  refine WL.not_ rfl ?_
  refine WL.nil ?_
  refine CW.condF rfl ?_
  refine CW.skip ?_
  refine CW.seq ?_
  refine CW.region ?_
  refine WL.call Try.func41 rfl rfl (.nil) (iencode_spec _ _ hm6) (fun _ w7 hr8 => ?_)
  obtain ⟨g9, rfl, M10, S11, hI12, hnw13, hu14, hms15, he16⟩ := hr8
  have hI17 : IEncR g9 w7 M10 S11 enc0 := hI12
  have e18 := Stp.ext e5 he16
  have hm19 := Up.mb hu14
  have hs020 : Ms M M10 := fun k h => hms15 k (hs00 k h)
  have fr21 := Ge.le hnw13 (Stp.size e5)
  refine WL.call Try.func46 rfl rfl (.nil) (idecode_spec _ _ hm19) (fun _ w22 hr23 => ?_)
  obtain ⟨g24, rfl, M25, S26, hI27, hnw28, hu29, hms30, he31⟩ := hr23
  have hI32 : IDecR g24 w22 M25 S26 dec0 := hI27
  have e33 := Stp.ext e18 he31
  have hm34 := Up.mb hu29
  have hs035 : Ms M M25 := fun k h => hms30 k (hs020 k h)
  have dj36 := Dj.fresh (T := S11) hnw28 (IEncR.ms hI17) hm19
  have fr37 := Ge.le hnw28 (Stp.size e18)
  refine WL.assign rfl ?_
  refine WL.assign rfl ?_
  refine WL.nil ?_
  refine CW.seq ?_
  refine CW.seq ?_
  refine CW.region ?_
  refine WL.move rfl ?_
  refine WL.rn (Rn.pnil Try.underlying72 rfl) ?_
  refine WL.move rfl ?_
  refine WL.gtake rfl rfl rfl ?_
  refine WL.move rfl ?_
  refine WL.gtake rfl rfl rfl ?_
  refine WL.rn (Rn.pnil Try.underlying77 rfl) ?_
  refine WL.pickF rfl rfl ?_
  refine WL.nil ?_
  refine CW.condF rfl ?_
  refine CW.skip ?_
  refine CW.seq ?_
  refine CW.seq ?_
  refine CW.region ?_
  refine WL.move rfl ?_
  refine WL.call Try.func54 rfl rfl (.cons rfl (.nil)) (bytes_spec _ _ hm34 (h1.up (Up.trans u4 (Up.trans hu14 hu29)))) (fun _ w38 hr39 => ?_)
  obtain ⟨M40, hP41⟩ := hr39
  obtain ⟨A42, c43, rfl⟩ := Own.form hP41.own
  have e44 := Stp.ext e33 (NewR.ext hP41)
  have hm45 := Up.mb (NewR.up hP41)
  have hs046 : Ms M M40 := fun k h => (NewR.ms hP41) k (hs035 k h)
  have mem48 : Ms S11 M25 := (fun k h => hms30 k ((IEncR.ms hI17) k h))
  have dj47 := Dj.fresh (T := S11) (NewR.new hP41) mem48 hm34
  have dj49 := Dj.fresh (T := S26) (NewR.new hP41) (IDecR.ms hI32) hm34
  have fr50 := Ge.le (NewR.new hP41) (Stp.size e33)
  refine WL.len Try.underlying29 rfl ?_
  refine WL.move rfl ?_
  refine WL.nil ?_
  refine CW.block ?_
  have h58 := IEncR.step hI17 he31 (fun _ _ h => h) hu29 mem48
  have mem59 : Ms S11 M40 := (fun k h => (NewR.ms hP41) k (mem48 k h))
  have h60 := IEncR.step h58 (NewR.ext hP41) (fun _ _ h => h) (NewR.up hP41) mem59
  have mem62 : Ms S26 M40 := (fun k h => (NewR.ms hP41) k ((IDecR.ms hI32) k h))
  have h63 := IDecR.step hI32 (NewR.ext hP41) (fun _ _ h => h) (NewR.up hP41) mem62
  refine CW.loop (fun m σ wr0 => ∃ j : Nat, ∃ s1 : IDec, ∃ T1 : List PTok, ∃ Sg : MS, ∃ Mr51 : MS, m = (bytesP l).length - j ∧ σ = [(0, .slice Ap1 l.length cp1), (3, .pointer (some ⟨g9, 0, none⟩)), (4, .pointer (some ⟨g24, 0, none⟩)), (20, .slice A42 ((bytesP l).length) c43), (21, .int .i64 ((bytesP l).length : Int)), (22, .int .i64 (j : Int))] ∧ (Up w38 M40 wr0 Mr51) ∧ (Stp w wr0 NoM) ∧ (Ms M40 Mr51) ∧ (Ms M Mr51) ∧ (IEncR g9 wr0 Mr51 S11 enc0) ∧ (IDecR g24 wr0 Mr51 Sg s1) ∧ (Own IntR 1 3 wr0 Mr51 0 (.slice A42 ((bytesP l).length) c43) (bytesP l)) ∧ (Ms (Sg) Mr51) ∧ (∀ q_, (Sg) q_ → w.heap.size ≤ q_) ∧ (Dj (Sg) (S11)) ∧ (Dj (Sg) (ob (.slice A42 (bytesP l).length c43))) ∧ (j ≤ (bytesP l).length) ∧ (runP idecPut ((bytesP l).take j) dec0 = (T1, s1))) _ _ (.cons (t := 0) rfl (.cons (t := 3) rfl (.cons (t := 4) rfl (.cons (t := 20) rfl (.cons (t := 21) rfl (.cons (t := 22) rfl (.nil _))))))) ⟨0, dec0, [], S26, M40, rfl, rfl, Up.refl hm45, e44, fun _ h => h, hs046, h60, h63, (NewR.own hP41), mem62, fr37, dj36, (Dj.symm dj49), by omega, rfl⟩ ?_
  rintro m _ wr0 ⟨j, s1, T1, Sg, Mr51, rfl, rfl, hU52, hE53, hsp55, hsb56, h57, h61, h64, mem65, wr66, dj67, dj68, hj, hr1⟩
  have hm54 := Up.mb hU52
  have mem69 : Ms S11 Mr51 := (fun k h => hsp55 k (mem59 k h))
  have mem70 : Ms (ob (.slice A42 (bytesP l).length c43)) Mr51 := (fun k h => hsp55 k ((Own.ms (NewR.own hP41)) k h))
  have hlen71 := Own.len h64
  have hf1 := idec_facts hr1
  have htl : ((bytesP l).take j).length = j := by rw [List.length_take]; omega
  refine CW.seq ?_
  refine CW.region ?_
  refine WL.lss rfl rfl ?_
  refine WL.nil ?_
  refine CW.seq ?_
  refine CW.condP rfl (fun hc72 => ?_) (fun hc72 => ?_)
  · have hjl : j < (bytesP l).length := by omega
    have hr1n := run_take_succ idecPut hjl hr1
    have hh1 := idec_held hr1n
    refine CW.skip ?_
    refine CW.seq ?_
    refine CW.block ?_
    refine CW.seq ?_
    refine CW.region ?_
    have hlt73 : j < (bytesP l).length := by omega
    obtain ⟨ad74, cs75, hA76, hs77, hat78, hR79⟩ := Own.get h64 hlt73
    rw [show _ = _ from hR79.1] at hat78
    have hhR79 := hR79.2; simp only [I64] at hhR79
    refine WL.idx es29 rfl rfl hA76 (by omega) (by omega) ?_
    refine WL.load sc3 rfl (At.cell hat78 0 _ rfl) ?_
    refine WL.assign rfl ?_
    refine WL.nil ?_
    refine CW.seq ?_
    refine CW.region ?_
    refine WL.move rfl ?_
    refine WL.move rfl ?_
    refine WL.call Try.func48 rfl rfl (.cons rfl (.cons rfl (.nil))) (idecPut_spec _ _ hm54 h61 (idec_ok hr1 (by omega)) ((bytesP l)[j]) (by simp only [I64]; omega)) (fun _ w80 hr81 => ?_)
    obtain ⟨M82, S83, hP84, hM85⟩ := hr81
    have hP88 : PutR wr0 Mr51 Sg w80 M82 S83 _ ((idecPut s1 ((bytesP l)[j])).1) := hP84
    obtain ⟨A86, c87, rfl⟩ := Own.form hP88.own
    have hM89 : IDecR g24 w80 M82 S83 (idecPut s1 ((bytesP l)[j])).2 := hM85
    have e90 := Stp.wr hE53 (PutR.stp hP88) (Wr.ofFr NoM wr66)
    have hm91 := Up.mb (PutR.up hP88)
    have hs092 : Ms M M82 := fun k h => (PutR.ms hP88) k (hsb56 k h)
    have hs093 : Ms M40 M82 := fun k h => (PutR.ms hP88) k (hsp55 k h)
    have dj94 := Dj.grow dj67 (PutR.wr hP88) mem69 hm54
    have dj95 := Dj.grow dj68 (PutR.wr hP88) mem70 hm54
    have fr97 := Ge.grow wr66 (PutR.wr hP88) (Stp.size hE53)
    have dj98 := Dj.fresh (T := S11) (PutR.new hP88) mem69 hm54
    have dj99 := Dj.fresh (T := (ob (.slice A42 (bytesP l).length c43))) (PutR.new hP88) mem70 hm54
    have fr100 := Ge.le (PutR.new hP88) (Stp.size hE53)
    refine WL.nil ?_
    refine CW.seq ?_
    refine CW.region ?_
    refine WL.move rfl ?_
    refine WL.call Try.func56 rfl rfl (.cons rfl (.nil)) (idecHeld_spec _ _ hm91 hM89) (fun _ w101 hr102 => ?_)
    obtain ⟨rfl, he103⟩ := hr102
    have u104 := Ext.up he103 hm91
    have e105 := Stp.ext e90 he103
    have hm106 := Up.mb u104
    refine WL.gtr rfl rfl ?_
    refine WL.nil ?_
    have hev107 : ¬ (1 < ((idecPut s1 ((bytesP l)[j])).2.m.1.length : Int)) := by omega
    refine CW.condP rfl (fun hn => absurd hn hev107) (fun _ => ?_)
    refine CW.skip ?_
    refine CW.region ?_
    refine WL.add rfl rfl (by omega) ?_
    refine WL.move rfl ?_
    refine WL.nil ?_
    have mem108 : Ms S11 M82 := (fun k h => (PutR.ms hP88) k (mem69 k h))
    have h109 := IEncR.step h57 (PutR.stp hP88) (Dj.symm dj67) (PutR.up hP88) mem108
    have h110 := IEncR.step h109 he103 (fun _ _ h => h) u104 mem108
    have mem111 : Ms S83 M82 := (IDecR.ms hM89)
    have h112 := IDecR.step hM89 he103 (fun _ _ h => h) u104 mem111
    have mem113 : Ms (ob (.slice A42 (bytesP l).length c43)) M82 := (fun k h => (PutR.ms hP88) k (mem70 k h))
    have h114 := Own.step h64 (PutR.stp hP88) (Dj.symm dj68) (PutR.up hP88) mem113
    have h115 := Own.ext h114 he103 u104 (fun _ h => h)
    refine Loop.again _ _ ?_ ?_ ⟨j + 1, (idecPut s1 (bytesP l)[j]).2, T1 ++ (idecPut s1 (bytesP l)[j]).1, S83, M82, rfl, rfl, (Up.trans hU52 (Up.trans (PutR.up hP88) u104)), e105, hs093, hs092, h110, h112, h115, mem111, fr97, dj94, dj95, by omega, hr1n⟩
    · omega
    · exact .cons (t := 0) rfl (.cons (t := 3) rfl (.cons (t := 4) rfl (.cons (t := 20) rfl (.cons (t := 21) rfl (.cons (t := 22) rfl (.nil _))))))
  · refine CW.exit ?_
    refine CW.seq ?_
    refine CW.seq ?_
    refine CW.region ?_
    refine WL.move rfl ?_
    refine WL.call Try.func47 rfl rfl (.cons rfl (.nil)) (scalars_spec _ _ hm54 (h1.up (Up.trans u4 (Up.trans hu14 (Up.trans hu29 (Up.trans (NewR.up hP41) hU52)))))) (fun _ w116 hr117 => ?_)
    obtain ⟨M118, hP119⟩ := hr117
    obtain ⟨A120, c121, rfl⟩ := Own.form hP119.own
    have e122 := Stp.ext hE53 (NewR.ext hP119)
    have hm123 := Up.mb (NewR.up hP119)
    have hs0124 : Ms M M118 := fun k h => (NewR.ms hP119) k (hsb56 k h)
    have dj125 := Dj.fresh (T := S11) (NewR.new hP119) mem69 hm54
    have dj126 := Dj.fresh (T := Sg) (NewR.new hP119) mem65 hm54
    have dj127 := Dj.fresh (T := (ob (.slice A42 (bytesP l).length c43))) (NewR.new hP119) mem70 hm54
    have fr128 := Ge.le (NewR.new hP119) (Stp.size hE53)
    refine WL.len Try.underlying29 rfl ?_
    refine WL.move rfl ?_
    refine WL.nil ?_
    refine CW.block ?_
    have mem136 : Ms S11 M118 := (fun k h => (NewR.ms hP119) k (mem69 k h))
    have h137 := IEncR.step h57 (NewR.ext hP119) (fun _ _ h => h) (NewR.up hP119) mem136
    have mem139 : Ms Sg M118 := (fun k h => (NewR.ms hP119) k (mem65 k h))
    have h140 := IDecR.step h61 (NewR.ext hP119) (fun _ _ h => h) (NewR.up hP119) mem139
    have h142 := Own.ext h64 (NewR.ext hP119) (NewR.up hP119) (NewR.ms hP119)
    refine CW.loop (fun m σ wr1 => ∃ k : Nat, ∃ s2 : IEnc, ∃ T2 : List PTok, ∃ Sh : MS, ∃ Mr129 : MS, m = (sclP l).length - k ∧ σ = [(3, .pointer (some ⟨g9, 0, none⟩)), (34, .slice A120 ((sclP l).length) c121), (35, .int .i64 ((sclP l).length : Int)), (36, .int .i64 (k : Int))] ∧ (Up w116 M118 wr1 Mr129) ∧ (Stp w wr1 NoM) ∧ (Ms M118 Mr129) ∧ (Ms M Mr129) ∧ (IEncR g9 wr1 Mr129 Sh s2) ∧ (IDecR g24 wr1 Mr129 Sg s1) ∧ (Own IntR 1 3 wr1 Mr129 0 (.slice A42 ((bytesP l).length) c43) (bytesP l)) ∧ (Own IntR 1 3 wr1 Mr129 0 (.slice A120 ((sclP l).length) c121) (sclP l)) ∧ (Ms (Sh) Mr129) ∧ (∀ q_, (Sh) q_ → w.heap.size ≤ q_) ∧ (Dj (Sh) (Sg)) ∧ (Dj (Sh) (ob (.slice A42 (bytesP l).length c43))) ∧ (Dj (Sh) (ob (.slice A120 (sclP l).length c121))) ∧ (k ≤ (sclP l).length) ∧ (runP iencPut ((sclP l).take k) enc0 = (T2, s2))) _ _ (.cons (t := 3) rfl (.cons (t := 34) rfl (.cons (t := 35) rfl (.cons (t := 36) rfl (.nil _))))) ⟨0, enc0, [], S11, M118, rfl, rfl, Up.refl hm123, e122, fun _ h => h, hs0124, h137, h140, h142, (NewR.own hP119), mem136, fr21, (Dj.symm dj67), (Dj.symm dj47), (Dj.symm dj125), by omega, rfl⟩ ?_
    rintro m _ wr1 ⟨k, s2, T2, Sh, Mr129, rfl, rfl, hU130, hE131, hsp133, hsb134, h135, h138, h141, h143, mem144, wr145, dj146, dj147, dj148, hk, hr2⟩
    have hm132 := Up.mb hU130
    have mem149 : Ms Sg Mr129 := (fun k h => hsp133 k (mem139 k h))
    have mem150 : Ms (ob (.slice A42 (bytesP l).length c43)) Mr129 := (fun k h => hsp133 k ((fun k h => (NewR.ms hP119) k (mem70 k h)) k h))
    have hlen151 := Own.len h141
    have mem152 : Ms (ob (.slice A120 (sclP l).length c121)) Mr129 := (fun k h => hsp133 k ((Own.ms (NewR.own hP119)) k h))
    have hlen153 := Own.len h143
    have hf2 := ienc_facts hr2
    have htl2 : ((sclP l).take k).length = k := by rw [List.length_take]; omega
    refine CW.seq ?_
    refine CW.region ?_
    refine WL.lss rfl rfl ?_
    refine WL.nil ?_
    refine CW.seq ?_
    refine CW.condP rfl (fun hc154 => ?_) (fun hc154 => ?_)
    · have hkl : k < (sclP l).length := by omega
      have hr2n := run_take_succ iencPut hkl hr2
      have hh2 := ienc_held hr2n
      refine CW.skip ?_
      refine CW.seq ?_
      refine CW.block ?_
      refine CW.seq ?_
      refine CW.region ?_
      have hlt155 : k < (sclP l).length := by omega
      obtain ⟨ad156, cs157, hA158, hs159, hat160, hR161⟩ := Own.get h143 hlt155
      rw [show _ = _ from hR161.1] at hat160
      have hhR161 := hR161.2; simp only [I64] at hhR161
      refine WL.idx es29 rfl rfl hA158 (by omega) (by omega) ?_
      refine WL.load sc3 rfl (At.cell hat160 0 _ rfl) ?_
      refine WL.assign rfl ?_
      refine WL.nil ?_
      refine CW.seq ?_
      refine CW.region ?_
      refine WL.move rfl ?_
      refine WL.move rfl ?_
      refine WL.call Try.func43 rfl rfl (.cons rfl (.cons rfl (.nil))) (iencPut_spec _ _ hm132 h135 (ienc_ok hr2 (by omega)) ((sclP l)[k]) (by simp only [I64]; omega)) (fun _ w162 hr163 => ?_)
      obtain ⟨M164, S165, hP166, hM167⟩ := hr163
      have hP170 : PutR wr1 Mr129 Sh w162 M164 S165 _ ((iencPut s2 ((sclP l)[k])).1) := hP166
      obtain ⟨A168, c169, rfl⟩ := Own.form hP170.own
      have hM171 : IEncR g9 w162 M164 S165 (iencPut s2 ((sclP l)[k])).2 := hM167
      have e172 := Stp.wr hE131 (PutR.stp hP170) (Wr.ofFr NoM wr145)
      have hm173 := Up.mb (PutR.up hP170)
      have hs0174 : Ms M M164 := fun k h => (PutR.ms hP170) k (hsb134 k h)
      have hs0175 : Ms M118 M164 := fun k h => (PutR.ms hP170) k (hsp133 k h)
      have dj176 := Dj.grow dj146 (PutR.wr hP170) mem149 hm132
      have dj177 := Dj.grow dj147 (PutR.wr hP170) mem150 hm132
      have dj178 := Dj.grow dj148 (PutR.wr hP170) mem152 hm132
      have fr180 := Ge.grow wr145 (PutR.wr hP170) (Stp.size hE131)
      have dj181 := Dj.fresh (T := Sg) (PutR.new hP170) mem149 hm132
      have dj182 := Dj.fresh (T := (ob (.slice A42 (bytesP l).length c43))) (PutR.new hP170) mem150 hm132
      have dj183 := Dj.fresh (T := (ob (.slice A120 (sclP l).length c121))) (PutR.new hP170) mem152 hm132
      have fr184 := Ge.le (PutR.new hP170) (Stp.size hE131)
      refine WL.nil ?_
      refine CW.seq ?_
      refine CW.region ?_
      refine WL.move rfl ?_
      refine WL.call Try.func53 rfl rfl (.cons rfl (.nil)) (iencHeld_spec _ _ hm173 hM171) (fun _ w185 hr186 => ?_)
      obtain ⟨rfl, he187⟩ := hr186
      have u188 := Ext.up he187 hm173
      have e189 := Stp.ext e172 he187
      have hm190 := Up.mb u188
      refine WL.gtr rfl rfl ?_
      refine WL.nil ?_
      have hev191 : ¬ (1 < ((iencPut s2 ((sclP l)[k])).2.e.wait.length : Int)) := by omega
      refine CW.condP rfl (fun hn => absurd hn hev191) (fun _ => ?_)
      refine CW.skip ?_
      refine CW.region ?_
      refine WL.add rfl rfl (by omega) ?_
      refine WL.move rfl ?_
      refine WL.nil ?_
      have mem192 : Ms S165 M164 := (IEncR.ms hM171)
      have h193 := IEncR.step hM171 he187 (fun _ _ h => h) u188 mem192
      have mem194 : Ms Sg M164 := (fun k h => (PutR.ms hP170) k (mem149 k h))
      have h195 := IDecR.step h138 (PutR.stp hP170) (Dj.symm dj146) (PutR.up hP170) mem194
      have h196 := IDecR.step h195 he187 (fun _ _ h => h) u188 mem194
      have mem197 : Ms (ob (.slice A42 (bytesP l).length c43)) M164 := (fun k h => (PutR.ms hP170) k (mem150 k h))
      have h198 := Own.step h141 (PutR.stp hP170) (Dj.symm dj147) (PutR.up hP170) mem197
      have h199 := Own.ext h198 he187 u188 (fun _ h => h)
      have mem200 : Ms (ob (.slice A120 (sclP l).length c121)) M164 := (fun k h => (PutR.ms hP170) k (mem152 k h))
      have h201 := Own.step h143 (PutR.stp hP170) (Dj.symm dj148) (PutR.up hP170) mem200
      have h202 := Own.ext h201 he187 u188 (fun _ h => h)
      refine Loop.again _ _ ?_ ?_ ⟨k + 1, (iencPut s2 (sclP l)[k]).2, T2 ++ (iencPut s2 (sclP l)[k]).1, S165, M164, rfl, rfl, (Up.trans hU130 (Up.trans (PutR.up hP170) u188)), e189, hs0175, hs0174, h193, h196, h199, h202, mem192, fr180, dj176, dj177, dj178, by omega, hr2n⟩
      · omega
      · exact .cons (t := 3) rfl (.cons (t := 34) rfl (.cons (t := 35) rfl (.cons (t := 36) rfl (.nil _))))
    · refine CW.exit ?_
      refine CW.seq ?_
      refine CW.region ?_
      refine WL.assign rfl ?_
      refine WL.nil ?_
      refine CW.ret ?_
      refine Ret.one rfl rfl ?_
      exact ⟨rfl, hE131⟩
end Go.Proofs.Ytgbajkdomcmblaa
