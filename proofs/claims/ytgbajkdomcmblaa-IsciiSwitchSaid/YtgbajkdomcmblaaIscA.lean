/- What the functions of package iscii come to: walks. -/
import Derived.Test.YtgbajkdomcmblaaIscD
namespace Go.Proofs.Ytgbajkdomcmblaa
open Go Go.RowKit Vc
set_option linter.unusedVariables false
set_option linter.unusedSimpArgs false
private theorem mixed : Try.prog.follows .mixedOrders = true := by kernel_rfl
private theorem fo58_2 : fieldOff Try.prog 58 2 = some 2 := by kernel_rfl
private theorem fo128_1 : fieldOff Try.prog 128 1 = some 1 := by kernel_rfl
private theorem es29 : elemSize Try.prog 29 = some 1 := by kernel_rfl
private theorem es55 : elemSize Try.prog 55 = some 4 := by kernel_rfl
private theorem sc3 : scalar Try.prog 3 = true := by kernel_rfl
private theorem sc29 : scalar Try.prog 29 = true := by kernel_rfl
private theorem sc79 : scalar Try.prog 79 = true := by kernel_rfl
private theorem ag58 : aggSize Try.prog 58 = some 4 := by kernel_rfl
private theorem ti3 : tinfo Try.prog 3 = some (some (.int .i64 0), 1, 8) := by kernel_rfl
private theorem ti29 : tinfo Try.prog 29 = some (some (.slice none 0 0), 1, 24) := by kernel_rfl
private theorem ti58 : tinfo Try.prog 58 = some (some (.agg #[.int .i64 0, .int .i64 0, .slice none 0 0, .int .i64 0]), 4, 48) := by kernel_rfl
private theorem ti79 : tinfo Try.prog 79 = some (some (.int .i64 0), 1, 8) := by kernel_rfl
theorem tok_out {w : World} {M : MS} {cs : List Value} {x : PTok} {v : Value} {sc sc2 : Int} {o : List Int} (h : TokR w M cs x) (hm : meanUs sc x.out = (o, sc2)) (hv : Sl IntR 1 w M v o) : TokR w M (cs.set 2 v) (meanTok sc x) := by
  obtain ⟨z, h1, h2, h3, h4, h5⟩ := h
  have : (meanTok sc x).out = o := by unfold meanTok; rw [hm]
  exact ⟨v, by rw [h1]; rfl, by rw [this]; exact hv, h3, h4, h5⟩

theorem mean_spec (w : World) (M : MS) (hm : MB w M) {g gd : Nat} {sc : Int} (hb : Bk w g 128 [.iface 109 (.pointer (some ⟨gd, 0, none⟩)), .int .i64 sc]) (hMg : M g) {A : Option Addr} {c : Nat} {ts : List PTok} (hO : Own TokR 4 58 w M 0 (.slice A ts.length c) ts) (hdj : Dj (ob (.slice A ts.length c)) (vb g)) (hl : ∀ x ∈ ts, x.out.length ≤ 1000) (hu : ∀ x ∈ ts, ∀ u ∈ x.out, uOk u) (hs0 : 0 ≤ sc) (hs1 : sc ≤ 10000) :
    Fc Try.prog 81 #[.pointer (some ⟨g, 0, none⟩), .slice A ts.length c] w fun v w' => v = .slice A ts.length c ∧ ∃ M', Own TokR 4 58 w' M' 0 (.slice A ts.length c) (meanT sc ts).1 ∧ Bk w' g 128 [.iface 109 (.pointer (some ⟨gd, 0, none⟩)), .int .i64 (meanT sc ts).2] ∧ Up w M w' M' ∧ Ms M M' ∧ Stp w w' (fun k => vb g k ∨ ob (.slice A ts.length c) k) := by
  have e0 := Stp.refl w ((fun k => vb g k ∨ ob (.slice A ts.length c) k) : MS)
  have hs00 : Ms M M := fun _ h => h
  have hmg : Ms (vb g) M := Ms.one hMg
  have hlim := Own.len hO
  have hwe : Wr w.heap.size (fun k => vb g k ∨ ob (.slice A ts.length c) k) (vb g) := fun q_ hq_ => .inl (.inl hq_)
  have hwt : Wr w.heap.size (fun k => vb g k ∨ ob (.slice A ts.length c) k) (ob (.slice A ts.length c)) := fun q_ hq_ => .inl (.inr hq_)
  refine Fc.enter (n := 57) [(0, .pointer (some ⟨g, 0, none⟩)), (1, .slice A ts.length c)] Try.func81 rfl rfl (Nat.le_of_ble_eq_true rfl) (.cons rfl (.cons rfl (.nil _))) ?_
  refine CW.seq ?_
  refine CW.region ?_
  refine WL.assign rfl ?_
  refine WL.nil ?_
  refine CW.seq ?_
  refine CW.seq ?_
  refine CW.region ?_
  refine WL.move rfl ?_
  refine WL.len Try.underlying55 rfl ?_
  refine WL.move rfl ?_
  refine WL.nil ?_
  refine CW.block ?_
  refine CW.loop (fun m σ wr0 => ∃ k : Nat, ∃ pre : List PTok, ∃ sc2 : Int, ∃ Mr1 : MS, m = ts.length - k ∧ σ = [(0, .pointer (some ⟨g, 0, none⟩)), (1, .slice A ts.length c), (10, .slice A ts.length c), (11, .int .i64 (ts.length : Int)), (12, .int .i64 (k : Int))] ∧ (Up w M wr0 Mr1) ∧ (Stp w wr0 (fun k => vb g k ∨ ob (.slice A ts.length c) k)) ∧ (Ms M Mr1) ∧ (Ms M Mr1) ∧ (Bk wr0 g 128 [.iface 109 (.pointer (some ⟨gd, 0, none⟩)), .int .i64 sc2]) ∧ (Own TokR 4 58 wr0 Mr1 0 (.slice A ts.length c) (pre ++ ts.drop k)) ∧ (k ≤ ts.length) ∧ (meanT sc (ts.take k) = (pre, sc2)) ∧ (0 ≤ sc2) ∧ (sc2 ≤ 10000)) _ _ (.cons (t := 0) rfl (.cons (t := 1) rfl (.cons (t := 10) rfl (.cons (t := 11) rfl (.cons (t := 12) rfl (.nil _)))))) ⟨0, [], sc, M, rfl, rfl, Up.refl hm, e0, fun _ h => h, hs00, hb, hO, by omega, rfl, by omega, by omega⟩ ?_
  rintro m _ wr0 ⟨k, pre, sc2, Mr1, rfl, rfl, hU2, hE3, hsp5, hsb6, h7, h8, hk, hj, hs20, hs21⟩
  have hm4 := Up.mb hU2
  have mem9 : Ms (vb g) Mr1 := (fun k h => hsp5 k (hmg k h))
  have mem10 : Ms (ob (.slice A ts.length c)) Mr1 := (fun k h => hsp5 k ((Own.ms hO) k h))
  have hlen11 := Own.len h8
  have hpl : pre.length = k := by have := meanT_len (ts.take k) sc; rw [hj] at this; simp at this; omega
  refine CW.seq ?_
  refine CW.region ?_
  refine WL.lss rfl rfl ?_
  refine WL.nil ?_
  refine CW.seq ?_
  refine CW.condP rfl (fun hc12 => ?_) (fun hc12 => ?_)
  · have hkl : k < ts.length := by omega
    have hxu := hu _ (List.getElem_mem hkl)
    have hxl := hl _ (List.getElem_mem hkl)
    refine CW.skip ?_
    refine CW.seq ?_
    refine CW.block ?_
    refine CW.seq ?_
    refine CW.region ?_
    refine WL.move rfl ?_
    have hlt13 : k < (pre ++ ts.drop k).length := by first | omega | (simp only [List.length_append, List.length_set, List.length_drop]; omega)
    obtain ⟨ad14, cs15, hA16, hs17, hat18, hR19⟩ := Own.get h8 hlt13
    rw [show (pre ++ ts.drop k)[k] = ts[k] from get_mid hpl hkl _] at hR19
    obtain ⟨_, hx22, ⟨A20, c21, rfl, hD23⟩, hi24, hi25, hi26⟩ := hR19
    rw [hx22] at hat18
    have hl27 := SlD.lim hD23
    simp only [I64] at hi24 hi25 hi26
    refine WL.idx es55 rfl rfl hA16 (by omega) (by omega) ?_
    refine WL.loadAgg (M := fun _ => False) (cs := [.int .i64 (ts[k].at_), .int .i64 (ts[k].len), .slice A20 (ts[k].out.length) c21, .int .i64 (ts[k].err)]) ag58 rfl hat18 ?_
    refine WL.alloc (cs := [.int .i64 0, .int .i64 0, .slice none 0 0, .int .i64 0]) ti58 rfl (fun g28 w29 hg30 hb31 he32 => ?_)
    obtain ⟨M33, u34, mem35, hsub36, hinv37⟩ := Ext.addVar he32 hm4 hg30 hb31
    have ge38 : ∀ q_, vb g28 q_ → wr0.heap.size ≤ q_ := fun q_ hq_ => by rw [hq_]; exact hg30
    have mem39 := Ms.one mem35
    have e40 := Stp.ext hE3 he32
    have hm41 := Up.mb u34
    have hs042 : Ms M M33 := fun k h => hsub36 k (hsb6 k h)
    have dj43 := Dj.fresh (T := (vb g)) ge38 mem9 hm4
    have dj44 := Dj.fresh (T := (ob (.slice A ts.length c))) ge38 mem10 hm4
    have fr45 := Ge.le ge38 (Stp.size hE3)
    refine WL.assign rfl ?_
    refine WL.storeAll (vs := [.int .i64 (ts[k].at_), .int .i64 (ts[k].len), .slice A20 (ts[k].out.length) c21, .int .i64 (ts[k].err)]) (by rw [ti58]; rfl) rfl rfl (by simp [Value.oneCell']) hb31 rfl (fun w46 hb47 hs48 => ?_)
    have u49 := Stp.upM hs48 hm41 mem39
    have e50 := Stp.wr e40 hs48 (Wr.ofFr (fun k => vb g k ∨ ob (.slice A ts.length c) k) fr45)
    have hm51 := Up.mb u49
    refine WL.nil ?_
    refine CW.seq ?_
    refine CW.region ?_
    refine WL.assign rfl ?_
    refine WL.nil ?_
    refine CW.seq ?_
    refine CW.seq ?_
    refine CW.region ?_
    refine WL.fieldAddr fo58_2 rfl ?_
    refine WL.load sc29 rfl ((Bk.at_ (M := fun _ => False) hb47 (fun h => h)).cell 2 _ rfl) ?_
    refine WL.len Try.underlying29 rfl ?_
    refine WL.move rfl ?_
    refine WL.nil ?_
    refine CW.block ?_
    have hO52 : Own IntR 1 3 w46 M33 0 (.slice none 0 0) [] := Own.nil
    have dj53 : Dj (ob (.slice none 0 0)) (vb g) := Dj.nil _
    have dj54 : Dj (ob (.slice none 0 0)) (ob (.slice A ts.length c)) := Dj.nil _
    have dj55 : Dj (ob (.slice none 0 0)) (vb g28) := Dj.nil _
    have h63 := Bk.ext h7 he32
    have h64 := Bk.stp h63 hs48 ((Dj.symm dj43) _ rfl)
    have h66 := Own.ext h8 he32 u34 hsub36
    have mem67 : Ms (ob (.slice A ts.length c)) M33 := (fun k h => hsub36 k (mem10 k h))
    have h68 := Own.step h66 hs48 (Dj.symm dj44) u49 mem67
    refine CW.loop (fun m σ wr1 => ∃ j : Nat, ∃ o : List Int, ∃ scz : Int, ∃ Mr56 : MS, ∃ A71 : Option Addr, ∃ n72 : Nat, ∃ c73 : Nat, m = ts[k].out.length - j ∧ σ = [(0, .pointer (some ⟨g, 0, none⟩)), (1, .slice A ts.length c), (5, .int .i64 (k : Int)), (7, .slice A71 n72 c73), (10, .slice A ts.length c), (11, .int .i64 (ts.length : Int)), (12, .int .i64 (k : Int)), (18, .slice A20 (ts[k].out.length) c21), (19, .int .i64 (ts[k].out.length : Int)), (20, .int .i64 (j : Int))] ∧ (Up w46 M33 wr1 Mr56) ∧ (Stp w wr1 (fun k => vb g k ∨ ob (.slice A ts.length c) k)) ∧ (Ms M33 Mr56) ∧ (Ms M Mr56) ∧ (Bk wr1 g 128 [.iface 109 (.pointer (some ⟨gd, 0, none⟩)), .int .i64 scz]) ∧ (Own TokR 4 58 wr1 Mr56 0 (.slice A ts.length c) (pre ++ ts.drop k)) ∧ (Bk wr1 g28 58 [.int .i64 (ts[k].at_), .int .i64 (ts[k].len), .slice A20 (ts[k].out.length) c21, .int .i64 (ts[k].err)]) ∧ (Own IntR 1 3 wr1 Mr56 0 (.slice A71 n72 c73) (o)) ∧ (Ms (ob (.slice A71 n72 c73)) Mr56) ∧ (∀ q_, (ob (.slice A71 n72 c73)) q_ → w.heap.size ≤ q_) ∧ (Dj (ob (.slice A71 n72 c73)) (vb g)) ∧ (Dj (ob (.slice A71 n72 c73)) (ob (.slice A ts.length c))) ∧ (Dj (ob (.slice A71 n72 c73)) (vb g28)) ∧ (j ≤ ts[k].out.length) ∧ (meanUs sc2 (ts[k].out.take j) = (o, scz)) ∧ (0 ≤ scz) ∧ (scz ≤ 10000) ∧ (o.length ≤ j)) _ _ (.cons (t := 0) rfl (.cons (t := 1) rfl (.cons (t := 5) rfl (.cons (t := 7) rfl (.cons (t := 10) rfl (.cons (t := 11) rfl (.cons (t := 12) rfl (.cons (t := 18) rfl (.cons (t := 19) rfl (.cons (t := 20) rfl (.nil _))))))))))) ⟨0, [], sc2, M33, none, 0, 0, rfl, rfl, Up.refl hm51, e50, fun _ h => h, hs042, h64, h68, hb47, hO52, (Ms.nil M33), (Fr.nil w.heap.size), dj53, dj54, dj55, by omega, rfl, by omega, by omega, by simp⟩ ?_
    rintro m _ wr1 ⟨j, o, scz, Mr56, A71, n72, c73, rfl, rfl, hU57, hE58, hsp60, hsb61, h62, h65, h69, h70, mem74, wr75, dj76, dj77, dj78, hj1, hmu, hs30, hs31, hol⟩
    have hm59 := Up.mb hU57
    have mem79 : Ms (vb g) Mr56 := (fun k h => hsp60 k ((fun k h => hsub36 k (mem9 k h)) k h))
    have mem80 : Ms (ob (.slice A ts.length c)) Mr56 := (fun k h => hsp60 k (mem67 k h))
    have hlen81 := Own.len h65
    have mem82 : Ms (vb g28) Mr56 := (fun k h => hsp60 k (mem39 k h))
    obtain rfl := Own.n h70
    have hlen83 := Own.len h70
    refine CW.seq ?_
    refine CW.region ?_
    refine WL.lss rfl rfl ?_
    refine WL.nil ?_
    refine CW.seq ?_
    refine CW.condP rfl (fun hc84 => ?_) (fun hc84 => ?_)
    · have hjl : j < ts[k].out.length := by omega
      have huu := hxu _ (List.getElem_mem hjl)
      have huu2 := huu
      simp only [uOk] at huu2
      refine CW.skip ?_
      refine CW.seq ?_
      refine CW.block ?_
      refine CW.seq ?_
      refine CW.region ?_
      have hlt85 : j < (ts[k].out).length := by first | omega | (simp only [List.length_append, List.length_set, List.length_drop]; omega)
      obtain ⟨ad86, cs87, hA88, hs89, hat90, hR91⟩ := SlD.get (hD23.up (Up.trans u34 (Up.trans u49 hU57))) (List.getElem?_eq_getElem hlt85)
      rw [show _ = _ from hR91.1] at hat90
      have hhR91 := hR91.2; simp only [I64] at hhR91
      refine WL.idx es29 rfl rfl hA88 (by omega) (by omega) ?_
      refine WL.load sc3 rfl (hat90.cell 0 _ rfl) ?_
      refine WL.assign rfl ?_
      refine WL.nil ?_
      refine CW.block ?_
      refine CW.seq ?_
      refine CW.region ?_
      refine WL.move rfl ?_
      refine WL.geq rfl rfl ?_
      refine WL.assign rfl ?_
      refine WL.nil ?_
      refine CW.condP rfl (fun hc92 => ?_) (fun hc92 => ?_)
      · refine CW.region ?_
        refine WL.move rfl ?_
        refine WL.move rfl ?_
        refine WL.sub_ rfl rfl (by omega) ?_
        refine WL.bslice1 (R := IntR) (y' := ((ts[k].out)[j]) - 8192) Try.underlying29 ti3 rfl (by decide) (by decide) rfl ⟨rfl, by omega⟩ rfl hm59 (fun v93 w94 hS95 he96 => ?_)
        obtain ⟨A97, c98, rfl, hD99⟩ := hS95
        have u100 := Ext.up he96 hm59
        have e101 := Stp.ext hE58 he96
        have hm102 := Up.mb u100
        have h112 := Own.ext h70 he96 u100 (fun _ h => h)
        refine WL.appendR Try.underlying29 ti3 rfl (by decide) rfl rfl h112 (Sl.atl (SlD.sl hD99)) hm102 (by decide) (by first | omega | (simp; omega)) (fun A103 c104 w105 M106 hO107 hs108 u109 hsub110 hnew111 => ?_)
        have e113 := Stp.wr e101 hs108 (Wr.ofFr (fun k => vb g k ∨ ob (.slice A ts.length c) k) wr75)
        have hm114 := Up.mb u109
        have hs0115 : Ms M M106 := fun k h => hsub110 k (hsb61 k h)
        have hs0116 : Ms M33 M106 := fun k h => hsub110 k (hsp60 k h)
        have dj117 := Dj.grow dj76 hnew111 mem79 hm102
        have dj118 := Dj.grow dj77 hnew111 mem80 hm102
        have dj119 := Dj.grow dj78 hnew111 mem82 hm102
        have fr121 := Ge.grow wr75 hnew111 (Stp.size e101)
        refine WL.assign rfl ?_
        refine WL.nil ?_
        refine CW.region ?_
        refine WL.add rfl rfl (by omega) ?_
        refine WL.move rfl ?_
        refine WL.nil ?_
        have hmn := meanUs_take_succ hjl hmu
        have hsn := meanU_sc hs30 hs31 huu
        have hme : meanU scz ts[k].out[j] = ([ts[k].out[j] - 8192], scz) := by unfold meanU; rw [if_pos (by omega)]
        rw [hme] at hmn hsn
        have h122 := Bk.ext h62 he96
        have h123 := Bk.stp h122 hs108 ((Dj.symm dj76) _ rfl)
        have h124 := Own.ext h65 he96 u100 (fun _ h => h)
        have mem125 : Ms (ob (.slice A ts.length c)) M106 := (fun k h => hsub110 k (mem80 k h))
        have h126 := Own.step h124 hs108 (Dj.symm dj77) u109 mem125
        have h127 := Bk.ext h69 he96
        have h128 := Bk.stp h127 hs108 ((Dj.symm dj78) _ rfl)
        refine Loop.again _ _ ?_ ?_ ⟨j + 1, o ++ [((ts[k].out)[j]) - 8192], scz, M106, A103, (o ++ [((ts[k].out)[j]) - 8192]).length, c104, rfl, rfl, (Up.trans hU57 (Up.trans u100 u109)), e113, hs0116, hs0115, h123, h126, h128, hO107, (Own.ms hO107), fr121, dj117, dj118, dj119, by omega, hmn, hsn.1, hsn.2, by simp only [List.length_append, List.length_cons, List.length_nil]; omega⟩
        · omega
        · exact .cons (t := 0) rfl (.cons (t := 1) rfl (.cons (t := 5) rfl (.cons (t := 7) rfl (.cons (t := 10) rfl (.cons (t := 11) rfl (.cons (t := 12) rfl (.cons (t := 18) rfl (.cons (t := 19) rfl (.cons (t := 20) rfl (.nil _))))))))))
      · refine CW.seq ?_
        refine CW.region ?_
        refine WL.move rfl ?_
        refine WL.geq rfl rfl ?_
        refine WL.assign rfl ?_
        refine WL.nil ?_
        refine CW.condP rfl (fun hc129 => ?_) (fun hc129 => ?_)
        · refine CW.region ?_
          refine WL.move rfl ?_
          refine WL.move rfl ?_
          refine WL.sub_ rfl rfl (by omega) ?_
          refine WL.nilCheck rfl ?_
          refine WL.fieldAddr fo128_1 rfl ?_
          refine WL.store (o := 1) (by rw [ti79]; rfl) rfl rfl rfl h62 (Nat.le_of_ble_eq_true rfl) (fun w130 hb134 hs132 => ?_)
          have hb131 : Bk w130 g 128 [.iface 109 (.pointer (some ⟨gd, 0, none⟩)), .int .i64 (((ts[k].out)[j]) - 4096)] := hb134
          have u133 := Stp.upM hs132 hm59 mem79
          have e135 := Stp.wr hE58 hs132 hwe
          have hm136 := Up.mb u133
          refine WL.nil ?_
          refine CW.region ?_
          refine WL.add rfl rfl (by omega) ?_
          refine WL.move rfl ?_
          refine WL.nil ?_
          have hmn := meanUs_take_succ hjl hmu
          have hsn := meanU_sc hs30 hs31 huu
          have hme : meanU scz ts[k].out[j] = ([], ts[k].out[j] - 4096) := by unfold meanU; rw [if_neg (by omega), if_pos (by omega)]
          rw [hme] at hmn hsn
          have h137 := Own.step h65 hs132 hdj u133 mem80
          have h138 := Bk.stp h69 hs132 (dj43 _ rfl)
          have h139 := Own.step h70 hs132 dj76 u133 mem74
          refine Loop.again _ _ ?_ ?_ ⟨j + 1, o, ((ts[k].out)[j]) - 4096, Mr56, A71, o.length, c73, rfl, rfl, (Up.trans hU57 u133), e135, hsp60, hsb61, hb131, h137, h138, h139, mem74, wr75, dj76, dj77, dj78, by omega, by rw [hmn]; simp, hsn.1, hsn.2, by omega⟩
          · omega
          · exact .cons (t := 0) rfl (.cons (t := 1) rfl (.cons (t := 5) rfl (.cons (t := 7) rfl (.cons (t := 10) rfl (.cons (t := 11) rfl (.cons (t := 12) rfl (.cons (t := 18) rfl (.cons (t := 19) rfl (.cons (t := 20) rfl (.nil _))))))))))
        · refine CW.region ?_
          refine WL.move rfl ?_
          refine WL.move rfl ?_
          refine WL.nilCheck rfl ?_
          refine WL.fieldAddr fo128_1 rfl ?_
          refine WL.load sc79 rfl ((Bk.at_ (M := fun _ => False) h62 (fun h => h)).cell 1 _ rfl) ?_
          refine WL.move rfl ?_
          refine WL.call Try.func97 rfl rfl (.cons rfl (.cons rfl (.nil))) (scalarOf_spec _ _ hm59 (s_ := scz) (p_ := ts[k].out[j]) (by omega) (by omega) (by omega) (by omega)) (fun _ w140 hr141 => ?_)
          obtain ⟨rfl, he142⟩ := hr141
          have u143 := Ext.up he142 hm59
          have e144 := Stp.ext hE58 he142
          have hm145 := Up.mb u143
          refine WL.bslice1 (R := IntR) (y' := 2304 + 128 * scz + ts[k].out[j]) Try.underlying29 ti3 rfl (by decide) (by decide) rfl ⟨rfl, by omega⟩ rfl hm145 (fun v146 w147 hS148 he149 => ?_)
          obtain ⟨A150, c151, rfl, hD152⟩ := hS148
          have u153 := Ext.up he149 hm145
          have e154 := Stp.ext e144 he149
          have hm155 := Up.mb u153
          have h165 := Own.ext h70 he142 u143 (fun _ h => h)
          have h166 := Own.ext h165 he149 u153 (fun _ h => h)
          refine WL.appendR Try.underlying29 ti3 rfl (by decide) rfl rfl h166 (Sl.atl (SlD.sl hD152)) hm155 (by decide) (by first | omega | (simp; omega)) (fun A156 c157 w158 M159 hO160 hs161 u162 hsub163 hnew164 => ?_)
          have e167 := Stp.wr e154 hs161 (Wr.ofFr (fun k => vb g k ∨ ob (.slice A ts.length c) k) wr75)
          have hm168 := Up.mb u162
          have hs0169 : Ms M M159 := fun k h => hsub163 k (hsb61 k h)
          have hs0170 : Ms M33 M159 := fun k h => hsub163 k (hsp60 k h)
          have dj171 := Dj.grow dj76 hnew164 mem79 hm155
          have dj172 := Dj.grow dj77 hnew164 mem80 hm155
          have dj173 := Dj.grow dj78 hnew164 mem82 hm155
          have fr175 := Ge.grow wr75 hnew164 (Stp.size e154)
          refine WL.assign rfl ?_
          refine WL.nil ?_
          refine CW.region ?_
          refine WL.add rfl rfl (by omega) ?_
          refine WL.move rfl ?_
          refine WL.nil ?_
          have hmn := meanUs_take_succ hjl hmu
          have hsn := meanU_sc hs30 hs31 huu
          have hme : meanU scz ts[k].out[j] = ([2304 + 128 * scz + ts[k].out[j]], scz) := by unfold meanU; rw [if_neg (by omega), if_neg (by omega)]
          rw [hme] at hmn hsn
          have h176 := Bk.ext h62 he142
          have h177 := Bk.ext h176 he149
          have h178 := Bk.stp h177 hs161 ((Dj.symm dj76) _ rfl)
          have h179 := Own.ext h65 he142 u143 (fun _ h => h)
          have h180 := Own.ext h179 he149 u153 (fun _ h => h)
          have mem181 : Ms (ob (.slice A ts.length c)) M159 := (fun k h => hsub163 k (mem80 k h))
          have h182 := Own.step h180 hs161 (Dj.symm dj77) u162 mem181
          have h183 := Bk.ext h69 he142
          have h184 := Bk.ext h183 he149
          have h185 := Bk.stp h184 hs161 ((Dj.symm dj78) _ rfl)
          refine Loop.again _ _ ?_ ?_ ⟨j + 1, o ++ [2304 + 128 * scz + ts[k].out[j]], scz, M159, A156, (o ++ [2304 + 128 * scz + ts[k].out[j]]).length, c157, rfl, rfl, (Up.trans hU57 (Up.trans u143 (Up.trans u153 u162))), e167, hs0170, hs0169, h178, h182, h185, hO160, (Own.ms hO160), fr175, dj171, dj172, dj173, by omega, hmn, hsn.1, hsn.2, by simp only [List.length_append, List.length_cons, List.length_nil]; omega⟩
          · omega
          · exact .cons (t := 0) rfl (.cons (t := 1) rfl (.cons (t := 5) rfl (.cons (t := 7) rfl (.cons (t := 10) rfl (.cons (t := 11) rfl (.cons (t := 12) rfl (.cons (t := 18) rfl (.cons (t := 19) rfl (.cons (t := 20) rfl (.nil _))))))))))
    · have hje : j = ts[k].out.length := by omega
      have hmu2 : meanUs sc2 ts[k].out = (o, scz) := by rw [← hmu, hje, List.take_length]
      have hD186 := Own.freeze h70 hm59
      have u187 := Up.freeze hm59 (ob (.slice A71 o.length c73))
      have hs0188 : Ms M (less Mr56 (ob (.slice A71 o.length c73))) := Ms.less hsb61 (Dj.symm (Dj.fresh wr75 (fun _ h => h) hm))
      have hm189 := Up.mb u187
      have mem190 : Ms (vb g) (less Mr56 (ob (.slice A71 o.length c73))) := (Ms.less mem79 (Dj.symm dj76))
      have mem191 : Ms (ob (.slice A ts.length c)) (less Mr56 (ob (.slice A71 o.length c73))) := (Ms.less mem80 (Dj.symm dj77))
      have mem192 : Ms (vb g28) (less Mr56 (ob (.slice A71 o.length c73))) := (Ms.less mem82 (Dj.symm dj78))
      refine CW.exit ?_
      refine CW.region ?_
      refine WL.move rfl ?_
      refine WL.move rfl ?_
      refine WL.move rfl ?_
      have hlt193 : k < (pre ++ ts.drop k).length := by first | omega | (simp only [List.length_append, List.length_set, List.length_drop]; omega)
      have h200 := Own.to h65 u187 mem191
      obtain ⟨ad194, cs195, hA196, hs197, hat198, hR199⟩ := Own.get h200 hlt193
      rw [show (pre ++ ts.drop k)[k] = ts[k] from get_mid hpl hkl _] at hR199
      obtain ⟨_, hx203, ⟨A201, c202, rfl, hD204⟩, hi205, hi206, hi207⟩ := hR199
      rw [hx203] at hat198
      have hl208 := SlD.lim hD204
      simp only [I64] at hi205 hi206 hi207
      refine WL.idx es55 rfl rfl hA196 (by omega) (by omega) ?_
      refine WL.fieldAddr fo58_2 rfl ?_
      refine WL.storeOwnU (x' := meanTok sc2 ts[k]) (off := 2) h200 hA196 hm189 hlt193 (by decide) (by rw [ti29]; rfl) rfl rfl rfl (fun w_ cs_ u_ h_ => tok_out (by rw [get_mid hpl hkl _] at h_; exact h_) (by rw [hmu2]) (Sl.up (SlD.sl hD186) u_)) (fun w209 hO210 hs211 u212 => ?_)
      have e213 := Stp.wr hE58 hs211 hwt
      have hm214 := Up.mb u212
      refine WL.nil ?_
      refine CW.region ?_
      refine WL.add rfl rfl (by omega) ?_
      refine WL.move rfl ?_
      refine WL.nil ?_
      have hml : (pre ++ [meanTok sc2 ts[k]]).length = k + 1 := by simp; omega
      have h215 := h62
      have h216 := Bk.stp h215 hs211 ((Dj.symm hdj) _ rfl)
      refine Loop.again _ _ ?_ ?_ ⟨k + 1, pre ++ [meanTok sc2 ts[k]], scz, (less Mr56 (ob (.slice A71 o.length c73))), rfl, rfl, (Up.trans hU2 (Up.trans u34 (Up.trans u49 (Up.trans hU57 (Up.trans u187 u212))))), e213, hs0188, hs0188, h216, Own.eq hO210 (set_mid hpl hkl _), by omega, by rw [meanT_take_succ hkl hj, hmu2], by omega, by omega⟩
      · omega
      · exact .cons (t := 0) rfl (.cons (t := 1) rfl (.cons (t := 10) rfl (.cons (t := 11) rfl (.cons (t := 12) rfl (.nil _)))))
  · have hke : k = ts.length := by omega
    refine CW.exit ?_
    refine CW.seq ?_
    refine CW.region ?_
    refine WL.move rfl ?_
    refine WL.assign rfl ?_
    refine WL.nil ?_
    refine CW.ret ?_
    refine Ret.one rfl rfl ?_
    have hfin : meanT sc ts = (pre, sc2) := by rw [← hj, hke, List.take_length]
    have hxe : pre ++ ts.drop k = pre := by rw [hke, List.drop_length, List.append_nil]
    rw [hfin]
    exact ⟨rfl, _, hxe ▸ h8, h7, hU2, hsb6, hE3⟩
end Go.Proofs.Ytgbajkdomcmblaa
