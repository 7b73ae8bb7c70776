/- What layer 16's examples come to: a walk. -/
import Derived.Test.YtgbajkdomcmblaaMachQ
namespace Go.Proofs.Ytgbajkdomcmblaa
open Go Go.RowKit Vc
set_option linter.unusedVariables false
set_option linter.unusedSimpArgs false
private theorem mixed : Try.prog.follows .mixedOrders = true := by kernel_rfl
private theorem fo58_3 : fieldOff Try.prog 58 3 = some 3 := by kernel_rfl
private theorem es55 : elemSize Try.prog 55 = some 4 := by kernel_rfl
private theorem sc46 : scalar Try.prog 46 = true := by kernel_rfl
private theorem ti3 : tinfo Try.prog 3 = some (some (.int .i64 0), 1, 8) := by kernel_rfl
private theorem ti100 : tinfo Try.prog 100 = some (some (.agg #[.slice none 0 0, .slice none 0 0]), 2, 48) := by kernel_rfl
def exR : List PRule := [⟨[1], [7]⟩, ⟨[1, 2], [8]⟩, ⟨[2], [9]⟩]
theorem ex_good : GoodR exR := ⟨by decide, by decide⟩
theorem encPutO {g : Nat} {rs : List PRule} {w : World} {M S : MS} {s : EncS} {n : Nat} {u : Int} (hE : EncO g rs w M S s) (hm : MB w M) (hg : GoodR rs) (hok : encOk s (n + 1)) (hu : I64 u) :
    Fc Try.prog 31 #[.pointer (some ⟨g, 0, none⟩), .int .i64 u] w fun v w' => ∃ M' S', PutR w M S w' M' S' v (encPut rs s u).1 ∧ EncO g rs w' M' S' (encPut rs s u).2 :=
  encPut_spec w M hm hE hg hok.1 (by have := hok.2.1; omega) hok.2.2 u hu
theorem ex_d1 : matchPut exR ([], 0) 1 = ([], ([1], 0)) := by
  unfold matchPut
  rw [take_open (by simp) (by decide)]; rfl
theorem ex_d2 : matchPut exR ([1], 0) 2 = ([⟨0, 2, [8], 0⟩], ([], 2)) := by
  have h : tokP exR ([1] ++ [2]) 0 = ⟨0, 2, [8], 0⟩ := by decide
  unfold matchPut
  rw [take_cons (by simp) (by decide), h]
  simp [take_nil]
theorem ex_take1 (u x a : Int) (h : tokP (turnP exR) ([] ++ [u]) a = ⟨a, 1, [x], 0⟩) (ho : (openP (turnP exR) ([] ++ [u]) && !false) = false) : takeP (turnP exR) false ([] ++ [u]) a = ([⟨a, 1, [x], 0⟩], [], a + 1) := by
  rw [take_cons (by simp) ho, h]
  simp [take_nil]
theorem ex_e1 : encPut exR ⟨[], 0, []⟩ 7 = ([⟨0, 1, [1], 0⟩], ⟨[], 1, [1]⟩) := by
  unfold encPut encTake
  simp only []
  rw [ex_take1 7 1 0 (by decide) (by decide)]; rfl
theorem ex_e2 : encPut exR ⟨[], 1, []⟩ 9 = ([⟨1, 1, [2], 0⟩], ⟨[], 2, [2]⟩) := by
  unfold encPut encTake
  simp only []
  rw [ex_take1 9 2 1 (by decide) (by decide)]; rfl
theorem ex_e3 : encPut exR ⟨[], 2, [2]⟩ 9 = ([⟨2, 1, [2], 0⟩], ⟨[], 3, [2]⟩) := by
  unfold encPut encTake
  simp only []
  rw [ex_take1 9 2 2 (by decide) (by decide)]; rfl

theorem awake_spec (w : World) (M : MS) (hm : MB w M) :
    Fc Try.prog 24 #[] w fun v w' => v = .bool true ∧ Ext w w' := by
  have e0 := Stp.refl w (NoM : MS)
  have hs00 : Ms M M := fun _ h => h
  refine Fc.enter (n := 87) [] Try.func24 rfl rfl (Nat.le_of_ble_eq_true rfl) (.nil _) ?_
  refine CW.seq ?_
  refine CW.region ?_
  refine WL.assign rfl ?_
  refine WL.nil ?_
  refine CW.seq ?_
  refine CW.region ?_
  refine WL.bslice Try.underlying29 ti3 rfl (by decide) (by decide) (.cons rfl (.nil)) rfl (by simp [Value.cells]) (fun g1 w2 hg3 hb4 he5 => ?_)
  have hD6 := Bk.ints (xs := [1]) hb4 (by decide) (MB.fresh hm hg3) (by decide)
  have u7 := Ext.up he5 hm
  have e8 := Stp.ext e0 he5
  have hm9 := Up.mb u7
  refine WL.bslice Try.underlying29 ti3 rfl (by decide) (by decide) (.cons rfl (.nil)) rfl (by simp [Value.cells]) (fun g10 w11 hg12 hb13 he14 => ?_)
  have hD15 := Bk.ints (xs := [7]) hb13 (by decide) (MB.fresh hm9 hg12) (by decide)
  have u16 := Ext.up he14 hm9
  have e17 := Stp.ext e8 he14
  have hm18 := Up.mb u16
  refine WL.buildP (cs := #[.slice (some ⟨g1, 0, none⟩) 1 1, .slice (some ⟨g10, 0, none⟩) 1 1]) (.cons rfl (.cons rfl (.nil))) (by kernel_rfl) ?_
  refine WL.bslice Try.underlying29 ti3 rfl (by decide) (by decide) (.cons rfl (.cons rfl (.nil))) rfl (by simp [Value.cells]) (fun g19 w20 hg21 hb22 he23 => ?_)
  have hD24 := Bk.ints (xs := [1, 2]) hb22 (by decide) (MB.fresh hm18 hg21) (by decide)
  have u25 := Ext.up he23 hm18
  have e26 := Stp.ext e17 he23
  have hm27 := Up.mb u25
  refine WL.bslice Try.underlying29 ti3 rfl (by decide) (by decide) (.cons rfl (.nil)) rfl (by simp [Value.cells]) (fun g28 w29 hg30 hb31 he32 => ?_)
  have hD33 := Bk.ints (xs := [8]) hb31 (by decide) (MB.fresh hm27 hg30) (by decide)
  have u34 := Ext.up he32 hm27
  have e35 := Stp.ext e26 he32
  have hm36 := Up.mb u34
  refine WL.buildP (cs := #[.slice (some ⟨g19, 0, none⟩) 2 2, .slice (some ⟨g28, 0, none⟩) 1 1]) (.cons rfl (.cons rfl (.nil))) (by kernel_rfl) ?_
  refine WL.bslice Try.underlying29 ti3 rfl (by decide) (by decide) (.cons rfl (.nil)) rfl (by simp [Value.cells]) (fun g37 w38 hg39 hb40 he41 => ?_)
  have hD42 := Bk.ints (xs := [2]) hb40 (by decide) (MB.fresh hm36 hg39) (by decide)
  have u43 := Ext.up he41 hm36
  have e44 := Stp.ext e35 he41
  have hm45 := Up.mb u43
  refine WL.bslice Try.underlying29 ti3 rfl (by decide) (by decide) (.cons rfl (.nil)) rfl (by simp [Value.cells]) (fun g46 w47 hg48 hb49 he50 => ?_)
  have hD51 := Bk.ints (xs := [9]) hb49 (by decide) (MB.fresh hm45 hg48) (by decide)
  have u52 := Ext.up he50 hm45
  have e53 := Stp.ext e44 he50
  have hm54 := Up.mb u52
  refine WL.buildP (cs := #[.slice (some ⟨g37, 0, none⟩) 1 1, .slice (some ⟨g46, 0, none⟩) 1 1]) (.cons rfl (.cons rfl (.nil))) (by kernel_rfl) ?_
  refine WL.bslice Try.underlying49 ti100 rfl (by decide) (by decide) (.cons rfl (.cons rfl (.cons rfl .nil))) rfl (by simp [Value.cells]) (fun g55 w56 hg57 hb58 he59 => ?_)
  have u61 := Ext.up he59 hm54
  have e62 := Stp.ext e53 he59
  have hm63 := Up.mb u61
  have hD60 : SlD RuleR 2 w56 M (some ⟨g55, 0, none⟩) 3 exR := Bk.sl2 (R := RuleR) (sz := 2) (css := [[.slice (some ⟨g1, 0, none⟩) 1 1, .slice (some ⟨g10, 0, none⟩) 1 1], [.slice (some ⟨g19, 0, none⟩) 2 2, .slice (some ⟨g28, 0, none⟩) 1 1], [.slice (some ⟨g37, 0, none⟩) 1 1, .slice (some ⟨g46, 0, none⟩) 1 1]]) (ys := exR) hb58 (.cons ⟨rfl, _, _, rfl, SlD.sl (hD6.up (Up.trans u16 (Up.trans u25 (Up.trans u34 (Up.trans u43 (Up.trans u52 u61)))))), SlD.sl (hD15.up (Up.trans u25 (Up.trans u34 (Up.trans u43 (Up.trans u52 u61)))))⟩ (.cons ⟨rfl, _, _, rfl, SlD.sl (hD24.up (Up.trans u34 (Up.trans u43 (Up.trans u52 u61)))), SlD.sl (hD33.up (Up.trans u43 (Up.trans u52 u61)))⟩ (.cons ⟨rfl, _, _, rfl, SlD.sl (hD42.up (Up.trans u52 u61)), SlD.sl (hD51.up u61)⟩ .nil))) (MB.fresh hm54 hg57) (by decide)
  refine WL.call Try.func25 rfl rfl (.cons rfl (.nil)) (tableOf_spec _ _ hm63 hD60 ex_good (by decide)) (fun _ w64 hr65 => ?_)
  obtain ⟨⟨gt, rfl, hT⟩, he66⟩ := hr65
  have u67 := Ext.up he66 hm63
  have e68 := Stp.ext e62 he66
  have hm69 := Up.mb u67
  refine WL.move rfl ?_
  refine WL.extract rfl rfl ?_
  refine WL.extract rfl rfl ?_
  refine WL.assign rfl ?_
  refine WL.assign rfl ?_
  refine WL.nil ?_
  refine CW.seq ?_
  refine CW.seq ?_
  refine CW.region ?_
  refine WL.move rfl ?_
  refine WL.rn (Rn.pnil Try.underlying45 rfl) ?_
  refine WL.move rfl ?_
  refine WL.gtake rfl rfl rfl ?_
  refine WL.move rfl ?_
  refine WL.gtake rfl rfl rfl ?_
  refine WL.neq rfl rfl ?_
  refine WL.pickF rfl rfl ?_
  refine WL.nil ?_
  have hev70 : ¬ ((0 : Int) ≠ 0) := by decide
  refine CW.condP rfl (fun hn => absurd hn hev70) (fun _ => ?_)
  refine CW.skip ?_
  refine CW.seq ?_
  refine CW.region ?_
  refine WL.move rfl ?_
  refine WL.call Try.func27 rfl rfl (.cons rfl (.nil)) (decode_spec _ _ hm69 hT) (fun _ w71 hr72 => ?_)
  obtain ⟨gd73, rfl, M74, S75, hD76, hnw77, hu78, hms79, he80⟩ := hr72
  have e81 := Stp.ext e68 he80
  have hm82 := Up.mb hu78
  have hs083 : Ms M M74 := fun k h => hms79 k (hs00 k h)
  have fr84 := Ge.le hnw77 (Stp.size e68)
  refine WL.move rfl ?_
  refine WL.call Try.func29 rfl rfl (.cons rfl (.nil)) (encode_spec _ _ hm82 (hT.up hu78)) (fun _ w85 hr86 => ?_)
  obtain ⟨ge87, rfl, M88, S89, hE90, hnw91, hu92, hms93, he94⟩ := hr86
  have e95 := Stp.ext e81 he94
  have hm96 := Up.mb hu92
  have hs097 : Ms M M88 := fun k h => hms93 k (hs083 k h)
  have dj98 := Dj.fresh (T := S75) hnw91 (DecO.ms hD76) hm82
  have fr99 := Ge.le hnw91 (Stp.size e81)
  refine WL.assign rfl ?_
  refine WL.assign rfl ?_
  refine WL.nil ?_
  refine CW.seq ?_
  refine CW.seq ?_
  refine CW.region ?_
  refine WL.move rfl ?_
  refine WL.rn (Rn.inil Try.underlying52 rfl) ?_
  refine WL.move rfl ?_
  refine WL.gtake rfl rfl rfl ?_
  refine WL.move rfl ?_
  refine WL.gtake rfl rfl rfl ?_
  refine WL.rn (Rn.pnil Try.underlying61 rfl) ?_
  refine WL.pickF rfl rfl ?_
  refine WL.nil ?_
  refine CW.condF rfl ?_
  refine CW.skip ?_
  refine CW.seq ?_
  refine CW.region ?_
  refine WL.move rfl ?_
  have mem108 : Ms S75 M88 := (fun k h => hms93 k ((DecO.ms hD76) k h))
  have h109 := DecO.step hD76 he94 (fun _ _ h => h) hu92 mem108
  obtain ⟨f100, r101, fn102, hm103, hf104, hn105, hb106, hF107⟩ := (dec_mach ex_good gd73).put (u := 1) (n := 0) h109 hm96 ⟨by decide, by decide⟩ (by decide)
  rw [ex_d1] at hF107
  refine WL.invoke rfl hm103 hf104 hn105 hb106 (.cons rfl (.nil)) (hF107) (fun _ w110 hr111 => ?_)
  obtain ⟨M112, S113, hP114, hM115⟩ := hr111
  obtain ⟨A116, c117, rfl⟩ := Own.form hP114.own
  have hM118 : DecO gd73 exR w110 M112 S113 ([(1 : Int)], (0 : Int)) := hM115
  have e119 := Stp.wr e95 (PutR.stp hP114) (Wr.ofFr NoM fr84)
  have hm120 := Up.mb (PutR.up hP114)
  have hs0121 : Ms M M112 := fun k h => (PutR.ms hP114) k (hs097 k h)
  have dj122 := Dj.grow (Dj.symm dj98) (PutR.wr hP114) (EncR.ms hE90) hm96
  have fr124 := Ge.grow fr84 (PutR.wr hP114) (Stp.size e95)
  have ge125 := Ge.grow hnw77 (PutR.wr hP114) (Stp.size (Up.stp (Up.trans hu78 hu92)))
  have dj126 := Dj.fresh (T := S89) (PutR.new hP114) (EncR.ms hE90) hm96
  have fr127 := Ge.le (PutR.new hP114) (Stp.size e95)
  refine WL.move rfl ?_
  obtain ⟨r128, hm129, hF130⟩ := dec_held hM118 hm120
  refine WL.invoke rfl hm129 Try.func74 rfl rfl (.nil) (hF130) (fun _ w131 hr132 => ?_)
  obtain ⟨rfl, he133⟩ := hr132
  have u134 := Ext.up he133 hm120
  have e135 := Stp.ext e119 he133
  have hm136 := Up.mb u134
  refine WL.assign rfl ?_
  refine WL.assign rfl ?_
  refine WL.nil ?_
  refine CW.seq ?_
  refine CW.region ?_
  refine WL.move rfl ?_
  have mem145 : Ms S113 M112 := (DecO.ms hM118)
  have h146 := DecO.step hM118 he133 (fun _ _ h => h) u134 mem145
  obtain ⟨f137, r138, fn139, hm140, hf141, hn142, hb143, hF144⟩ := (dec_mach ex_good gd73).put (u := 2) (n := 0) h146 hm136 ⟨by decide, by decide⟩ (by decide)
  rw [ex_d2] at hF144
  refine WL.invoke rfl hm140 hf141 hn142 hb143 (.cons rfl (.nil)) (hF144) (fun _ w147 hr148 => ?_)
  obtain ⟨M149, S150, hP151, hM152⟩ := hr148
  obtain ⟨A153, c154, rfl⟩ := Own.form hP151.own
  have hM155 : DecO gd73 exR w147 M149 S150 (([] : List Int), (2 : Int)) := hM152
  have e156 := Stp.wr e135 (PutR.stp hP151) (Wr.ofFr NoM fr124)
  have hm157 := Up.mb (PutR.up hP151)
  have hs0158 : Ms M M149 := fun k h => (PutR.ms hP151) k (hs0121 k h)
  have mem160 : Ms S89 M112 := (fun k h => (PutR.ms hP114) k ((EncR.ms hE90) k h))
  have dj159 := Dj.grow dj122 (PutR.wr hP151) mem160 hm136
  have mem162 : Ms (ob (.slice A116 ([] : List PTok).length c117)) M112 := (Own.ms (PutR.own hP114))
  have dj161 := Dj.grow (Dj.symm (PutR.dj hP114)) (PutR.wr hP151) mem162 hm136
  have fr164 := Ge.grow fr124 (PutR.wr hP151) (Stp.size e135)
  have ge165 := Ge.grow ge125 (PutR.wr hP151) (Stp.size (Up.stp (Up.trans hu78 (Up.trans hu92 (Up.trans (PutR.up hP114) u134)))))
  have dj166 := Dj.fresh (T := S89) (PutR.new hP151) mem160 hm136
  have dj167 := Dj.fresh (T := (ob (.slice A116 ([] : List PTok).length c117))) (PutR.new hP151) mem162 hm136
  have fr168 := Ge.le (PutR.new hP151) (Stp.size e135)
  refine WL.assign rfl ?_
  refine WL.nil ?_
  refine CW.seq ?_
  refine CW.region ?_
  refine WL.move rfl ?_
  have mem170 : Ms S89 M112 := (fun k h => (PutR.ms hP114) k ((EncR.ms hE90) k h))
  have h171 := EncR.step hE90 (PutR.stp hP114) dj98 (PutR.up hP114) mem170
  have h172 := EncR.step h171 he133 (fun _ _ h => h) u134 mem160
  have mem173 : Ms S89 M149 := (fun k h => (PutR.ms hP151) k (mem160 k h))
  have h174 := EncR.step h172 (PutR.stp hP151) (Dj.symm dj122) (PutR.up hP151) mem173
  have hF169 := encPutO (u := 7) h174 hm157 ex_good (n := 0) ⟨by decide, by decide, by decide⟩ (by decide)
  rw [ex_e1] at hF169
  refine WL.call Try.func31 rfl rfl (.cons rfl (.cons rfl (.nil))) (hF169) (fun _ w175 hr176 => ?_)
  obtain ⟨M177, S178, hP179, hM180⟩ := hr176
  obtain ⟨A181, c182, rfl⟩ := Own.form hP179.own
  have hM183 : EncO ge87 exR w175 M177 S178 (⟨[], 1, [1]⟩ : EncS) := hM180
  have e184 := Stp.wr e156 (PutR.stp hP179) (Wr.ofFr NoM fr99)
  have hm185 := Up.mb (PutR.up hP179)
  have hs0186 : Ms M M177 := fun k h => (PutR.ms hP179) k (hs0158 k h)
  have dj187 := Dj.grow (Dj.symm dj159) (PutR.wr hP179) (DecO.ms hM155) hm157
  have mem189 : Ms (ob (.slice A116 ([] : List PTok).length c117)) M149 := (fun k h => (PutR.ms hP151) k (mem162 k h))
  have dj188 := Dj.grow (Dj.symm dj126) (PutR.wr hP179) mem189 hm157
  have dj190 := Dj.grow (Dj.symm dj166) (PutR.wr hP179) (Own.ms (PutR.own hP151)) hm157
  have fr192 := Ge.grow fr99 (PutR.wr hP179) (Stp.size e156)
  have ge193 := Ge.grow hnw91 (PutR.wr hP179) (Stp.size (Up.stp (Up.trans hu92 (Up.trans (PutR.up hP114) (Up.trans u134 (PutR.up hP151))))))
  have dj194 := Dj.fresh (T := S150) (PutR.new hP179) (DecO.ms hM155) hm157
  have dj195 := Dj.fresh (T := (ob (.slice A116 ([] : List PTok).length c117))) (PutR.new hP179) mem189 hm157
  have dj196 := Dj.fresh (T := (ob (.slice A153 [(⟨0, 2, [8], 0⟩ : PTok)].length c154))) (PutR.new hP179) (Own.ms (PutR.own hP151)) hm157
  have fr197 := Ge.le (PutR.new hP179) (Stp.size e156)
  refine WL.assign rfl ?_
  refine WL.nil ?_
  refine CW.seq ?_
  refine CW.region ?_
  refine WL.move rfl ?_
  refine WL.call Try.func37 rfl rfl (.cons rfl (.nil)) (encApart_spec _ _ hm185 hM183) (fun _ w198 hr199 => ?_)
  obtain ⟨M200, S201, hE202, hu203, hms204, hst205, hwr206⟩ := hr199
  have e207 := Stp.wr e184 hst205 (Wr.ofFr NoM fr192)
  have hm208 := Up.mb hu203
  have hs0209 : Ms M M200 := fun k h => hms204 k (hs0186 k h)
  have hE210 : EncO ge87 exR w198 M200 S201 (⟨[], 1, []⟩ : EncS) := hE202
  have mem212 : Ms S150 M177 := (fun k h => (PutR.ms hP179) k ((DecO.ms hM155) k h))
  have dj211 := Dj.grow dj187 hwr206 mem212 hm185
  have mem214 : Ms (ob (.slice A116 ([] : List PTok).length c117)) M177 := (fun k h => (PutR.ms hP179) k (mem189 k h))
  have dj213 := Dj.grow dj188 hwr206 mem214 hm185
  have mem216 : Ms (ob (.slice A153 [(⟨0, 2, [8], 0⟩ : PTok)].length c154)) M177 := (fun k h => (PutR.ms hP179) k ((Own.ms (PutR.own hP151)) k h))
  have dj215 := Dj.grow dj190 hwr206 mem216 hm185
  have dj217 := Dj.grow (Dj.symm (PutR.dj hP179)) hwr206 (Own.ms (PutR.own hP179)) hm185
  have fr219 := Ge.grow fr192 hwr206 (Stp.size e184)
  have ge220 := Ge.grow ge193 hwr206 (Stp.size (Up.stp (Up.trans hu92 (Up.trans (PutR.up hP114) (Up.trans u134 (Up.trans (PutR.up hP151) (PutR.up hP179)))))))
  refine WL.nil ?_
  refine CW.seq ?_
  refine CW.region ?_
  refine WL.move rfl ?_
  have hF221 := encPutO (u := 9) hE210 hm208 ex_good (n := 0) ⟨by decide, by decide, by decide⟩ (by decide)
  rw [ex_e2] at hF221
  refine WL.call Try.func31 rfl rfl (.cons rfl (.cons rfl (.nil))) (hF221) (fun _ w222 hr223 => ?_)
  obtain ⟨M224, S225, hP226, hM227⟩ := hr223
  obtain ⟨A228, c229, rfl⟩ := Own.form hP226.own
  have hM230 : EncO ge87 exR w222 M224 S225 (⟨[], 2, [2]⟩ : EncS) := hM227
  have e231 := Stp.wr e207 (PutR.stp hP226) (Wr.ofFr NoM fr219)
  have hm232 := Up.mb (PutR.up hP226)
  have hs0233 : Ms M M224 := fun k h => (PutR.ms hP226) k (hs0209 k h)
  have mem235 : Ms S150 M200 := (fun k h => hms204 k (mem212 k h))
  have dj234 := Dj.grow dj211 (PutR.wr hP226) mem235 hm208
  have mem237 : Ms (ob (.slice A116 ([] : List PTok).length c117)) M200 := (fun k h => hms204 k (mem214 k h))
  have dj236 := Dj.grow dj213 (PutR.wr hP226) mem237 hm208
  have mem239 : Ms (ob (.slice A153 [(⟨0, 2, [8], 0⟩ : PTok)].length c154)) M200 := (fun k h => hms204 k (mem216 k h))
  have dj238 := Dj.grow dj215 (PutR.wr hP226) mem239 hm208
  have mem241 : Ms (ob (.slice A181 [(⟨0, 1, [1], 0⟩ : PTok)].length c182)) M200 := (fun k h => hms204 k ((Own.ms (PutR.own hP179)) k h))
  have dj240 := Dj.grow dj217 (PutR.wr hP226) mem241 hm208
  have fr243 := Ge.grow fr219 (PutR.wr hP226) (Stp.size e207)
  have ge244 := Ge.grow ge220 (PutR.wr hP226) (Stp.size (Up.stp (Up.trans hu92 (Up.trans (PutR.up hP114) (Up.trans u134 (Up.trans (PutR.up hP151) (Up.trans (PutR.up hP179) hu203)))))))
  have dj245 := Dj.fresh (T := S150) (PutR.new hP226) mem235 hm208
  have dj246 := Dj.fresh (T := (ob (.slice A116 ([] : List PTok).length c117))) (PutR.new hP226) mem237 hm208
  have dj247 := Dj.fresh (T := (ob (.slice A153 [(⟨0, 2, [8], 0⟩ : PTok)].length c154))) (PutR.new hP226) mem239 hm208
  have dj248 := Dj.fresh (T := (ob (.slice A181 [(⟨0, 1, [1], 0⟩ : PTok)].length c182))) (PutR.new hP226) mem241 hm208
  have fr249 := Ge.le (PutR.new hP226) (Stp.size e207)
  refine WL.assign rfl ?_
  refine WL.nil ?_
  refine CW.seq ?_
  refine CW.region ?_
  refine WL.move rfl ?_
  refine WL.len Try.underlying55 rfl ?_
  refine WL.eql rfl rfl ?_
  refine WL.move rfl ?_
  have hev250 : ((([] : List PTok).length : Int) = 0) := by decide
  refine WL.gtake rfl rfl (decide_eq_true hev250) ?_
  refine WL.move rfl ?_
  refine WL.gtake rfl rfl (decide_eq_true hev250) ?_
  refine WL.eql rfl rfl ?_
  refine WL.pickT (congrArg (fun b => some (Value.bool b)) (decide_eq_true hev250)) rfl ?_
  refine WL.move rfl ?_
  have hev251 : ((([(1 : Int)], (0 : Int)).1.length : Int) = 1) := by decide
  refine WL.gtake rfl rfl (decide_eq_true hev251) ?_
  refine WL.move rfl ?_
  refine WL.gtake rfl rfl (decide_eq_true hev251) ?_
  refine WL.len Try.underlying55 rfl ?_
  refine WL.gtake rfl rfl (decide_eq_true hev251) ?_
  refine WL.eql rfl rfl ?_
  refine WL.pickT (congrArg (fun b => some (Value.bool b)) (decide_eq_true hev251)) rfl ?_
  refine WL.move rfl ?_
  have hev252 : (([(⟨0, 2, [8], 0⟩ : PTok)].length : Int) = 1) := by decide
  refine WL.gtake rfl rfl (decide_eq_true hev252) ?_
  refine WL.move rfl ?_
  refine WL.gtake rfl rfl (decide_eq_true hev252) ?_
  refine WL.len Try.underlying55 rfl ?_
  refine WL.gtake rfl rfl (decide_eq_true hev252) ?_
  refine WL.eql rfl rfl ?_
  refine WL.pickT (congrArg (fun b => some (Value.bool b)) (decide_eq_true hev252)) rfl ?_
  refine WL.move rfl ?_
  have hev253 : (([(⟨0, 1, [1], 0⟩ : PTok)].length : Int) = 1) := by decide
  refine WL.gtake rfl rfl (decide_eq_true hev253) ?_
  refine WL.move rfl ?_
  refine WL.gtake rfl rfl (decide_eq_true hev253) ?_
  refine WL.len Try.underlying55 rfl ?_
  refine WL.gtake rfl rfl (decide_eq_true hev253) ?_
  refine WL.eql rfl rfl ?_
  refine WL.pickT (congrArg (fun b => some (Value.bool b)) (decide_eq_true hev253)) rfl ?_
  refine WL.move rfl ?_
  have hev254 : (([(⟨1, 1, [2], 0⟩ : PTok)].length : Int) = 1) := by decide
  refine WL.gtake rfl rfl (decide_eq_true hev254) ?_
  refine WL.move rfl ?_
  refine WL.gtake rfl rfl (decide_eq_true hev254) ?_
  have hlt255 : 0 < [(⟨1, 1, [2], 0⟩ : PTok)].length := by decide
  obtain ⟨ad256, cs257, hA258, hs259, hat260, hR261⟩ := Own.get (PutR.own hP226) hlt255
  rw [show [(⟨1, 1, [2], 0⟩ : PTok)][0] = (⟨1, 1, [2], 0⟩ : PTok) from rfl] at hR261
  obtain ⟨_, hx264, ⟨A262, c263, rfl, hD265⟩, hi266, hi267, hi268⟩ := hR261
  rw [hx264] at hat260
  have hl269 := SlD.lim hD265
  simp only [I64] at hi266 hi267 hi268
  refine WL.idx es55 rfl rfl hA258 (by omega) (by decide) ?_
  refine WL.gtake rfl rfl (decide_eq_true hev254) ?_
  refine WL.fieldAddr fo58_3 rfl ?_
  refine WL.gtake rfl rfl (decide_eq_true hev254) ?_
  refine WL.load sc46 rfl (At.cell hat260 3 _ rfl) ?_
  refine WL.gtake rfl rfl (decide_eq_true hev254) ?_
  refine WL.eql rfl rfl ?_
  refine WL.pickT (congrArg (fun b => some (Value.bool b)) (decide_eq_true hev254)) rfl ?_
  refine WL.move rfl ?_
  have hev270 : ((⟨1, 1, [2], 0⟩ : PTok).err = 0) := by decide
  refine WL.gtake rfl rfl (decide_eq_true hev270) ?_
  refine WL.move rfl ?_
  refine WL.gtake rfl rfl (decide_eq_true hev270) ?_
  have hF271 := encPutO (u := 9) hM230 hm232 ex_good (n := 0) ⟨by decide, by decide, by decide⟩ (by decide)
  rw [ex_e3] at hF271
  refine WL.call Try.func31 rfl rfl (.cons rfl (.cons rfl (.nil))) (hF271) (fun _ w272 hr273 => ?_)
  obtain ⟨M274, S275, hP276, hM277⟩ := hr273
  obtain ⟨A278, c279, rfl⟩ := Own.form hP276.own
  have hM280 : EncO ge87 exR w272 M274 S275 (⟨[], 3, [2]⟩ : EncS) := hM277
  have e281 := Stp.wr e231 (PutR.stp hP276) (Wr.ofFr NoM fr243)
  have hm282 := Up.mb (PutR.up hP276)
  have hs0283 : Ms M M274 := fun k h => (PutR.ms hP276) k (hs0233 k h)
  have mem285 : Ms S150 M224 := (fun k h => (PutR.ms hP226) k (mem235 k h))
  have dj284 := Dj.grow dj234 (PutR.wr hP276) mem285 hm232
  have mem287 : Ms (ob (.slice A116 ([] : List PTok).length c117)) M224 := (fun k h => (PutR.ms hP226) k (mem237 k h))
  have dj286 := Dj.grow dj236 (PutR.wr hP276) mem287 hm232
  have mem289 : Ms (ob (.slice A153 [(⟨0, 2, [8], 0⟩ : PTok)].length c154)) M224 := (fun k h => (PutR.ms hP226) k (mem239 k h))
  have dj288 := Dj.grow dj238 (PutR.wr hP276) mem289 hm232
  have mem291 : Ms (ob (.slice A181 [(⟨0, 1, [1], 0⟩ : PTok)].length c182)) M224 := (fun k h => (PutR.ms hP226) k (mem241 k h))
  have dj290 := Dj.grow dj240 (PutR.wr hP276) mem291 hm232
  have dj292 := Dj.grow (Dj.symm (PutR.dj hP226)) (PutR.wr hP276) (Own.ms (PutR.own hP226)) hm232
  have fr294 := Ge.grow fr243 (PutR.wr hP276) (Stp.size e231)
  have ge295 := Ge.grow ge244 (PutR.wr hP276) (Stp.size (Up.stp (Up.trans hu92 (Up.trans (PutR.up hP114) (Up.trans u134 (Up.trans (PutR.up hP151) (Up.trans (PutR.up hP179) (Up.trans hu203 (PutR.up hP226)))))))))
  have dj296 := Dj.fresh (T := S150) (PutR.new hP276) mem285 hm232
  have dj297 := Dj.fresh (T := (ob (.slice A116 ([] : List PTok).length c117))) (PutR.new hP276) mem287 hm232
  have dj298 := Dj.fresh (T := (ob (.slice A153 [(⟨0, 2, [8], 0⟩ : PTok)].length c154))) (PutR.new hP276) mem289 hm232
  have dj299 := Dj.fresh (T := (ob (.slice A181 [(⟨0, 1, [1], 0⟩ : PTok)].length c182))) (PutR.new hP276) mem291 hm232
  have dj300 := Dj.fresh (T := (ob (.slice A228 [(⟨1, 1, [2], 0⟩ : PTok)].length c229))) (PutR.new hP276) (Own.ms (PutR.own hP226)) hm232
  have fr301 := Ge.le (PutR.new hP276) (Stp.size e231)
  refine WL.gtake rfl rfl (decide_eq_true hev270) ?_
  refine WL.len Try.underlying55 rfl ?_
  refine WL.gtake rfl rfl (decide_eq_true hev270) ?_
  refine WL.eql rfl rfl ?_
  refine WL.pickT (congrArg (fun b => some (Value.bool b)) (decide_eq_true hev270)) rfl ?_
  refine WL.assign rfl ?_
  refine WL.nil ?_
  refine CW.ret ?_
  refine Ret.one rfl rfl ?_
  exact ⟨rfl, e281⟩
end Go.Proofs.Ytgbajkdomcmblaa
