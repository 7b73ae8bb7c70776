/- What trie.Of comes to: a walk. -/
import Derived.Test.YtgbajkdomcmblaaMachF
namespace Go.Proofs.Ytgbajkdomcmblaa
open Go Go.RowKit Vc
set_option linter.unusedVariables false
set_option linter.unusedSimpArgs false
private theorem mixed : Try.prog.follows .mixedOrders = true := by kernel_rfl
private theorem fo100_0 : fieldOff Try.prog 100 0 = some 0 := by kernel_rfl
private theorem fo100_1 : fieldOff Try.prog 100 1 = some 1 := by kernel_rfl
private theorem fo133_1 : fieldOff Try.prog 133 1 = some 1 := by kernel_rfl
private theorem fo133_3 : fieldOff Try.prog 133 3 = some 3 := by kernel_rfl
private theorem fo136_0 : fieldOff Try.prog 136 0 = some 0 := by kernel_rfl
private theorem fo136_1 : fieldOff Try.prog 136 1 = some 1 := by kernel_rfl
private theorem es29 : elemSize Try.prog 29 = some 1 := by kernel_rfl
private theorem es49 : elemSize Try.prog 49 = some 2 := by kernel_rfl
private theorem es134 : elemSize Try.prog 134 = some 4 := by kernel_rfl
private theorem sc3 : scalar Try.prog 3 = true := by kernel_rfl
private theorem sc29 : scalar Try.prog 29 = true := by kernel_rfl
private theorem sc49 : scalar Try.prog 49 = true := by kernel_rfl
private theorem sc134 : scalar Try.prog 134 = true := by kernel_rfl
private theorem ag100 : aggSize Try.prog 100 = some 2 := by kernel_rfl
private theorem ti3 : tinfo Try.prog 3 = some (some (.int .i64 0), 1, 8) := by kernel_rfl
private theorem ti49 : tinfo Try.prog 49 = some (some (.slice none 0 0), 1, 24) := by kernel_rfl
private theorem ti100 : tinfo Try.prog 100 = some (some (.agg #[.slice none 0 0, .slice none 0 0]), 2, 48) := by kernel_rfl
private theorem ti133 : tinfo Try.prog 133 = some (some (.agg #[.int .i64 0, .int .i64 0, .int .i64 0, .int .i64 0]), 4, 32) := by kernel_rfl
private theorem ti134 : tinfo Try.prog 134 = some (some (.slice none 0 0), 1, 24) := by kernel_rfl
theorem trieOf_spec (w : World) (M : MS) (hm : MB w M) {Ap1 : Option Addr} {cp1 : Nat} {rs : List PRule} (h1 : SlD RuleR 2 w M Ap1 cp1 rs) (hg : GoodR rs) :
    Fc Try.prog 62 #[.slice Ap1 rs.length cp1] w fun v w' => (∃ g, v = .tuple #[.pointer (some ⟨g, 0, none⟩), .int .i64 0] ∧ TrieR w' M g rs) ∧ Ext w w' := by
  have e0 := Stp.refl w (NoM : MS)
  have hs00 : Ms M M := fun _ h => h
  have hlim := h1.lim
  have hlen := hg.len
  refine Fc.enter (n := 106) [(0, .slice Ap1 rs.length cp1)] Try.func62 rfl rfl (Nat.le_of_ble_eq_true rfl) (.cons rfl (.nil _)) ?_
  refine CW.seq ?_
  refine CW.region ?_
  refine WL.assign rfl ?_
  refine WL.assign rfl ?_
  refine WL.nil ?_
  refine CW.seq ?_
  refine CW.seq ?_
  refine CW.region ?_
  refine WL.move rfl ?_
  refine WL.call Try.func84 rfl rfl (.cons rfl (.nil)) (Check_spec _ _ hm h1 hg.len hg.ok) (fun _ w1 hr2 => ?_)
  obtain ⟨rfl, he3⟩ := hr2
  have u4 := Ext.up he3 hm
  have e5 := Stp.ext e0 he3
  have hm6 := Up.mb u4
  refine WL.move rfl ?_
  refine WL.extract rfl rfl ?_
  refine WL.extract rfl rfl ?_
  refine WL.assign rfl ?_
  refine WL.assign rfl ?_
  refine WL.nil ?_
  refine CW.seq ?_
  refine CW.region ?_
  refine WL.move rfl ?_
  refine WL.neq rfl rfl ?_
  refine WL.nil ?_
  have hev7 : ¬ ((0 : Int) ≠ 0) := by decide
  refine CW.condP rfl (fun hn => absurd hn hev7) (fun _ => ?_)
  refine CW.skip ?_
  refine CW.seq ?_
  refine CW.region ?_
  refine WL.buildP (cs := #[.int .i64 0, .int .i64 0, .int .i64 0, .int .i64 (-1)]) (.cons rfl (.nil)) (by kernel_rfl) ?_
  refine WL.bslice Try.underlying134 ti133 rfl (by decide) (by decide) (.cons rfl .nil) rfl (by simp [Value.cells]) (fun g8 w9 hg10 hb11 he12 => ?_)
  obtain ⟨M14, u15, mem16, hsub17, hinv18⟩ := Ext.addVar he12 hm6 hg10 hb11
  have ge19 : ∀ q_, (ob (.slice (some ⟨g8, 0, none⟩) 1 1)) q_ → w1.heap.size ≤ q_ := fun q_ hq_ => by have hq_ : some g8 = some q_ := hq_; cases hq_; exact hg10
  have e20 := Stp.ext e5 he12
  have hm21 := Up.mb u15
  have hs022 : Ms M M14 := fun k h => hsub17 k (hs00 k h)
  have hO13 : Own NodeR 4 133 w9 M14 0 (.slice (some ⟨g8, 0, none⟩) 1 1) [(⟨0, 0, 0, -1⟩ : PNode)] := Bk.own (css := [[.int .i64 0, .int .i64 0, .int .i64 0, .int .i64 (-1)]]) (ys := [(⟨0, 0, 0, -1⟩ : PNode)]) hb11 (.cons ⟨rfl, ⟨rfl, by decide, by decide, by decide, by decide⟩⟩ .nil) (Nat.zero_le _) mem16 (by decide)
  have wr23 := Wr.fresh NoM ge19 (Stp.size e5)
  have hO24 : Own RuleR 2 100 w9 M14 0 (.slice none 0 0) [] := Own.nil
  have dj25 : Dj (ob (.slice none 0 0)) (ob (.slice (some ⟨g8, 0, none⟩) 1 1)) := Dj.nil _
  refine WL.buildP (cs := #[.slice (some ⟨g8, 0, none⟩) 1 1, .slice none 0 0]) (.cons rfl (.nil)) (by kernel_rfl) ?_
  refine WL.box (cs := [.slice (some ⟨g8, 0, none⟩) 1 1, .slice none 0 0]) rfl rfl (fun g26 w27 hg28 hb29 he30 => ?_)
  obtain ⟨M31, u32, mem33, hsub34, hinv35⟩ := Ext.addVar he30 hm21 hg28 hb29
  have ge36 : ∀ q_, vb g26 q_ → w9.heap.size ≤ q_ := fun q_ hq_ => by rw [hq_]; exact hg28
  have mem37 := Ms.one mem33
  have e38 := Stp.ext e20 he30
  have hm39 := Up.mb u32
  have hs040 : Ms M M31 := fun k h => hsub34 k (hs022 k h)
  have dj41 := Dj.fresh (T := (ob (.slice (some ⟨g8, 0, none⟩) 1 1))) ge36 (Own.ms hO13) hm21
  have dj42 := Dj.fresh (T := (ob (.slice none 0 0))) ge36 (Ms.nil M14) hm21
  have wr43 := Wr.fresh NoM ge36 (Stp.size e20)
  refine WL.assign rfl ?_
  refine WL.nil ?_
  refine CW.seq ?_
  refine CW.seq ?_
  refine CW.region ?_
  refine WL.move rfl ?_
  refine WL.len Try.underlying49 rfl ?_
  refine WL.move rfl ?_
  refine WL.nil ?_
  refine CW.block ?_
  have h54 := Own.ext hO13 he30 u32 hsub34
  have h59 := Own.ext hO24 he30 u32 hsub34
  have mem63 : Ms (ob (.slice (some ⟨g8, 0, none⟩) 1 1)) M31 := (fun k h => hsub34 k ((Own.ms hO13) k h))
  have mem68 : Ms (ob (.slice none 0 0)) M31 := (fun k h => hsub34 k ((Ms.nil M14) k h))
  refine CW.loop (fun m σ wr0 => ∃ k : Nat, ∃ nodes : List PNode, ∃ paths : List (List Int), ∃ Mr44 : MS, ∃ A51 : Option Addr, ∃ n52 : Nat, ∃ c53 : Nat, ∃ A56 : Option Addr, ∃ n57 : Nat, ∃ c58 : Nat, m = rs.length - k ∧ σ = [(6, .pointer (some ⟨g26, 0, none⟩)), (26, .slice Ap1 rs.length cp1), (27, .int .i64 (rs.length : Int)), (28, .int .i64 (k : Int))] ∧ (Up w27 M31 wr0 Mr44) ∧ (Stp w wr0 NoM) ∧ (Ms M31 Mr44) ∧ (Ms M Mr44) ∧ (Own NodeR 4 133 wr0 Mr44 0 (.slice A51 n52 c53) (nodes)) ∧ (Own RuleR 2 100 wr0 Mr44 0 (.slice A56 n57 c58) ((rs.take k).map outRule)) ∧ (Bk wr0 g26 136 [.slice A51 n52 c53, .slice A56 n57 c58]) ∧ (Ms (ob (.slice A51 n52 c53)) Mr44) ∧ (Wr w.heap.size NoM (ob (.slice A51 n52 c53))) ∧ (Dj (ob (.slice A51 n52 c53)) (ob (.slice A56 n57 c58))) ∧ (Dj (ob (.slice A51 n52 c53)) (vb g26)) ∧ (Ms (ob (.slice A56 n57 c58)) Mr44) ∧ (Wr w.heap.size NoM (ob (.slice A56 n57 c58))) ∧ (Dj (ob (.slice A56 n57 c58)) (vb g26)) ∧ (k ≤ rs.length) ∧ (TrieG rs k 0 nodes paths) ∧ (nodes.length ≤ 1 + 8 * k)) _ _ (.cons (t := 6) rfl (.cons (t := 26) rfl (.cons (t := 27) rfl (.cons (t := 28) rfl (.nil _))))) ⟨0, [(⟨0, 0, 0, -1⟩ : PNode)], [[]], M31, (some ⟨g8, 0, none⟩), 1, 1, none, 0, 0, rfl, rfl, Up.refl hm39, e38, fun _ h => h, hs040, h54, by simpa using h59, hb29, mem63, wr23, (Dj.symm dj25), (Dj.symm dj41), mem68, (Wr.nil w.heap.size NoM), (Dj.symm dj42), by omega, TrieG.start rs, by simp⟩ ?_
  rintro m _ wr0 ⟨k, nodes, paths, Mr44, A51, n52, c53, A56, n57, c58, rfl, rfl, hU45, hE46, hsp48, hsb49, h50, h55, h60, mem61, wr62, dj64, dj65, mem66, wr67, dj69, hk, hG, hsz⟩
  have hm47 := Up.mb hU45
  obtain rfl := Own.n h50
  have hlen70 := Own.len h50
  obtain rfl := Own.n h55
  have hlen71 := Own.len h55
  have mem72 : Ms (vb g26) Mr44 := (fun k h => hsp48 k (mem37 k h))
  have hmr : ((rs.take k).map outRule).length = k := by simp; omega
  refine CW.seq ?_
  refine CW.region ?_
  refine WL.lss rfl rfl ?_
  refine WL.nil ?_
  refine CW.seq ?_
  refine CW.condP rfl (fun hc73 => ?_) (fun hc73 => ?_)
  · have hkl : k < rs.length := by omega
    obtain ⟨⟨hi1, hi2, hi3⟩, ho1, ho2, ho3⟩ := hg.mem (List.getElem_mem hkl)
    refine CW.skip ?_
    refine CW.seq ?_
    refine CW.block ?_
    refine CW.seq ?_
    refine CW.region ?_
    refine WL.move rfl ?_
    have hlt74 : k < rs.length := by first | omega | (simp; omega)
    obtain ⟨ad75, cs76, hA77, hs78, hat79, hR80⟩ := SlD.get (h1.up (Up.trans u4 (Up.trans u15 (Up.trans u32 hU45)))) (List.getElem?_eq_getElem hlt74)
    obtain ⟨_, _, hx85, ⟨A81, c82, rfl, hD86⟩, ⟨A83, c84, rfl, hD87⟩⟩ := hR80
    rw [hx85] at hat79
    have hl88 := SlD.lim hD86
    have hl89 := SlD.lim hD87
    refine WL.idx es49 rfl rfl hA77 (by omega) (by omega) ?_
    refine WL.loadAgg (cs := [.slice A81 (rs[k].inn.length) c82, .slice A83 (rs[k].out.length) c84]) ag100 rfl hat79 ?_
    refine WL.alloc (cs := [.slice none 0 0, .slice none 0 0]) ti100 rfl (fun g90 w91 hg92 hb93 he94 => ?_)
    obtain ⟨M95, u96, mem97, hsub98, hinv99⟩ := Ext.addVar he94 hm47 hg92 hb93
    have ge100 : ∀ q_, vb g90 q_ → wr0.heap.size ≤ q_ := fun q_ hq_ => by rw [hq_]; exact hg92
    have mem101 := Ms.one mem97
    have e102 := Stp.ext hE46 he94
    have hm103 := Up.mb u96
    have hs0104 : Ms M M95 := fun k h => hsub98 k (hsb49 k h)
    have hs0105 : Ms M31 M95 := fun k h => hsub98 k (hsp48 k h)
    have dj106 := Dj.fresh (T := (ob (.slice A51 nodes.length c53))) ge100 mem61 hm47
    have dj107 := Dj.fresh (T := (ob (.slice A56 ((rs.take k).map outRule).length c58))) ge100 mem66 hm47
    have dj108 := Dj.fresh (T := (vb g26)) ge100 mem72 hm47
    have wr109 := Wr.fresh NoM ge100 (Stp.size hE46)
    refine WL.assign rfl ?_
    refine WL.storeAll (vs := [.slice A81 (rs[k].inn.length) c82, .slice A83 (rs[k].out.length) c84]) (by rw [ti100]; rfl) rfl rfl (by simp [Value.oneCell']) hb93 rfl (fun w110 hb111 hs112 => ?_)
    have u113 := Stp.upM hs112 hm103 mem101
    have e114 := Stp.wr e102 hs112 wr109
    have hm115 := Up.mb u113
    refine WL.nil ?_
    refine CW.seq ?_
    refine CW.region ?_
    refine WL.assign rfl ?_
    refine WL.nil ?_
    refine CW.seq ?_
    refine CW.drawn [10, 13] (fun w1 w' => Ext w1 w') mixed (fun w116 ed117 hh118 => ?_)
    have u120 := Ext.up ed117 hm115
    have e121 := Stp.ext e114 ed117
    have hm122 := Up.mb u120
    have hcl119 := Stp.refl w116 (fun _ => False)
    refine DW.rF 0 rfl (by kernel_rfl) (fun _ _ _ h => h) (fun w' => Rn.move rfl) ?_
    refine DW.rF 1 rfl (by kernel_rfl) (fun _ _ _ h => h) (fun w' => Rn.move rfl) ?_
    refine DW.rF 2 rfl (by kernel_rfl) (fun _ _ _ h => h) (fun w' => Rn.nilCheck rfl) ?_
    refine DW.rF 3 rfl (by kernel_rfl) (fun _ _ _ h => h) (fun w' => Rn.fieldAddr fo136_1 rfl) ?_
    have h123 := Bk.ext h60 he94
    have h124 := Bk.stp h123 hs112 ((Dj.symm dj108) _ rfl)
    have h125 := Bk.ext h124 ed117
    refine DW.rT 4 rfl (by kernel_rfl) (fun _ _ _ h => h) (fun w' hC => Rn.load sc49 rfl ((Bk.at_ (M := fun _ => False) (Bk.ext h125 hC) (fun h => h)).cell 1 _ rfl)) ?_
    refine DW.rF 5 rfl (by kernel_rfl) (fun _ _ _ h => h) (fun w' => Rn.fieldAddr fo100_1 rfl) ?_
    have h126 := Bk.ext hb111 ed117
    refine DW.rT 6 rfl (by kernel_rfl) (fun _ _ _ h => h) (fun w' hC => Rn.load sc29 rfl ((Bk.at_ (M := fun _ => False) (Bk.ext h126 hC) (fun h => h)).cell 1 _ rfl)) ?_
    refine DW.only 7 (by kernel_rfl) rfl (fun _ => hcl119) ?_
    refine WL.appendR Try.underlying29 ti3 rfl (by decide) rfl rfl (Own.nil (R := IntR) (sz := 1) (e := 3) (w := w116) (M := M95) (B := 0)) (Sl.atl (SlD.sl (hD87.up (Up.trans u96 (Up.trans u113 u120))))) hm122 (by decide) (by simp; omega) (fun A127 c128 w129 M130 hO131 hs132 u133 hsub134 hnew135 => ?_)
    have he136 : Ext w116 w129 := Stp.to hs132 (fun k h => by have h : (none : Option Nat) = some k := h; cases h)
    have ge137 : ∀ q_, (ob (.slice A127 ([] ++ (rs[k].out)).length c128)) q_ → w116.heap.size ≤ q_ := fun q_ hq_ => (hnew135 q_ hq_).elim (fun h => by have h : (none : Option Nat) = some q_ := h; cases h) id
    have e138 := Stp.ext e121 he136
    have hm139 := Up.mb u133
    have hcl140 := Stp.ext hcl119 he136
    have hs0141 : Ms M M130 := fun k h => hsub134 k (hs0104 k h)
    have hs0142 : Ms M31 M130 := fun k h => hsub134 k (hs0105 k h)
    have mem144 : Ms (ob (.slice A51 nodes.length c53)) M95 := (fun k h => hsub98 k (mem61 k h))
    have dj143 := Dj.fresh (T := (ob (.slice A51 nodes.length c53))) ge137 mem144 hm122
    have mem146 : Ms (ob (.slice A56 ((rs.take k).map outRule).length c58)) M95 := (fun k h => hsub98 k (mem66 k h))
    have dj145 := Dj.fresh (T := (ob (.slice A56 ((rs.take k).map outRule).length c58))) ge137 mem146 hm122
    have mem148 : Ms (vb g26) M95 := (fun k h => hsub98 k (mem72 k h))
    have dj147 := Dj.fresh (T := (vb g26)) ge137 mem148 hm122
    have dj149 := Dj.fresh (T := (vb g90)) ge137 mem101 hm122
    have wr150 := Wr.fresh NoM ge137 (Stp.size e121)
    have hD151 := Own.freeze hO131 hm139
    have u152 := Up.freeze hm139 (ob (.slice A127 ([] ++ (rs[k].out)).length c128))
    have hs0153 : Ms M (less M130 (ob (.slice A127 ([] ++ (rs[k].out)).length c128))) := Ms.less hs0141 (Dj.symm (Dj.fresh (Ge.le ge137 (Stp.size (Up.stp (Up.trans u4 (Up.trans u15 (Up.trans u32 (Up.trans hU45 (Up.trans u96 (Up.trans u113 u120))))))))) (fun _ h => h) hm))
    have hs0154 : Ms M31 (less M130 (ob (.slice A127 ([] ++ (rs[k].out)).length c128))) := Ms.less hs0142 (Dj.symm (Dj.fresh (Ge.le ge137 (Stp.size (Up.stp (Up.trans hU45 (Up.trans u96 (Up.trans u113 u120)))))) (fun _ h => h) hm39))
    have hm155 := Up.mb u152
    have mem156 : Ms (ob (.slice A51 nodes.length c53)) (less M130 (ob (.slice A127 ([] ++ (rs[k].out)).length c128))) := (Ms.less (fun k h => hsub134 k (mem144 k h)) (Dj.symm dj143))
    have mem157 : Ms (ob (.slice A56 ((rs.take k).map outRule).length c58)) (less M130 (ob (.slice A127 ([] ++ (rs[k].out)).length c128))) := (Ms.less (fun k h => hsub134 k (mem146 k h)) (Dj.symm dj145))
    have mem158 : Ms (vb g26) (less M130 (ob (.slice A127 ([] ++ (rs[k].out)).length c128))) := (Ms.less (fun k h => hsub134 k (mem148 k h)) (Dj.symm dj147))
    have mem159 : Ms (vb g90) (less M130 (ob (.slice A127 ([] ++ (rs[k].out)).length c128))) := (Ms.less (fun k h => hsub134 k (mem101 k h)) (Dj.symm dj149))
    refine WL.nil ?_
    refine DW.only 8 (by kernel_rfl) rfl (fun _ => hcl140) ?_
    refine WL.buildP (cs := #[.slice none 0 0, .slice A127 (([] ++ (rs[k].out)).length) c128]) (.cons rfl (.nil)) (by kernel_rfl) ?_
    refine WL.nil ?_
    refine DW.only 9 (by kernel_rfl) rfl (fun _ => hcl140) ?_
    refine WL.bslice1 (R := RuleR) (y' := (⟨[], [] ++ (rs[k].out)⟩ : PRule)) Try.underlying49 ti100 rfl (by decide) (by decide) rfl ⟨_, _, rfl, Sl.nil, SlD.sl hD151⟩ rfl hm155 (fun v160 w161 hS162 he163 => ?_)
    have u164 := Ext.up he163 hm155
    have e165 := Stp.ext e138 he163
    have hm166 := Up.mb u164
    have hcl167 := Stp.ext hcl140 he163
    refine WL.nil ?_
    refine DW.only 10 (by kernel_rfl) rfl (fun _ => hcl167) ?_
    have h177 := Own.ext h55 he94 u96 hsub98
    have mem178 : Ms (ob (.slice A56 ((rs.take k).map outRule).length c58)) M95 := (fun k h => hsub98 k (mem66 k h))
    have h179 := Own.step h177 hs112 (Dj.symm dj107) u113 mem178
    have h180 := Own.ext h179 ed117 u120 (fun _ h => h)
    have h181 := Own.ext h180 he136 u133 hsub134
    have h182 := Own.to h181 u152 mem157
    have h183 := Own.ext h182 he163 u164 (fun _ h => h)
    refine WL.appendR Try.underlying49 ti100 rfl (by decide) rfl rfl h183 (Sl.atl hS162) hm166 (by decide) (by simp; omega) (fun A168 c169 w170 M171 hO172 hs173 u174 hsub175 hnew176 => ?_)
    have e184 := Stp.wr e165 hs173 wr67
    have hm185 := Up.mb u174
    have hs0186 : Ms M M171 := fun k h => hsub175 k (hs0153 k h)
    have hs0187 : Ms M31 M171 := fun k h => hsub175 k (hs0154 k h)
    have dj188 := Dj.grow (Dj.symm dj64) hnew176 mem156 hm166
    have dj189 := Dj.grow dj69 hnew176 mem158 hm166
    have dj190 := Dj.grow (Dj.symm dj107) hnew176 mem159 hm166
    have wr191 := Wr.grow wr67 hnew176 (Stp.size e165)
    refine WL.nil ?_
    refine DW.rF 11 rfl (by kernel_rfl) (fun _ _ _ h => h) (fun w' => Rn.nilCheck rfl) ?_
    refine DW.rF 12 rfl (by kernel_rfl) (fun _ _ _ h => h) (fun w' => Rn.fieldAddr fo136_1 rfl) ?_
    refine DW.only 13 (by kernel_rfl) rfl (notFresh (by kernel_rfl)) ?_
    have h196 := Bk.ext h125 he136
    have h197 := h196
    have h198 := Bk.ext h197 he163
    have h199 := Bk.stp h198 hs173 ((Dj.symm dj69) _ rfl)
    have mem200 : Ms (vb g26) M171 := (fun k h => hsub175 k (mem158 k h))
    refine WL.store (o := 1) (by rw [ti49]; rfl) rfl rfl rfl h199 (Nat.le_of_ble_eq_true rfl) (fun w192 hb201 hs194 => ?_)
    have hb193 : Bk w192 g26 136 [.slice A51 nodes.length c53, .slice A168 ((((rs.take k).map outRule) ++ [(⟨[], [] ++ (rs[k].out)⟩ : PRule)]).length) c169] := hb201
    have u195 := Stp.upM hs194 hm185 mem200
    have e202 := Stp.wr e184 hs194 wr43
    have hm203 := Up.mb u195
    refine WL.nil ?_
    refine DW.done (by kernel_rfl) (notFresh (by kernel_rfl)) ?_
    refine CW.seq ?_
    refine CW.seq ?_
    refine CW.region ?_
    refine WL.fieldAddr fo100_0 rfl ?_
    have h204 := Bk.ext h126 he136
    have h205 := h204
    have h206 := Bk.ext h205 he163
    have h207 := Bk.stp h206 hs173 (dj107 _ rfl)
    have h208 := Bk.stp h207 hs194 (dj108 _ rfl)
    refine WL.load sc29 rfl ((Bk.at_ (M := fun _ => False) h208 (fun h => h)).cell 0 _ rfl) ?_
    refine WL.len Try.underlying29 rfl ?_
    refine WL.move rfl ?_
    refine WL.nil ?_
    refine CW.block ?_
    have h219 := Own.ext h50 he94 u96 hsub98
    have mem220 : Ms (ob (.slice A51 nodes.length c53)) M95 := (fun k h => hsub98 k (mem61 k h))
    have h221 := Own.step h219 hs112 (Dj.symm dj106) u113 mem220
    have h222 := Own.ext h221 ed117 u120 (fun _ h => h)
    have h223 := Own.ext h222 he136 u133 hsub134
    have h224 := Own.to h223 u152 mem156
    have h225 := Own.ext h224 he163 u164 (fun _ h => h)
    have mem226 : Ms (ob (.slice A51 nodes.length c53)) M171 := (fun k h => hsub175 k (mem156 k h))
    have h227 := Own.step h225 hs173 dj64 u174 mem226
    have h228 := Own.step h227 hs194 dj65 u195 mem226
    have mem230 : Ms (ob (.slice A168 (((rs.take k).map outRule) ++ [(⟨[], [] ++ (rs[k].out)⟩ : PRule)]).length c169)) M171 := (Own.ms hO172)
    have h231 := Own.step hO172 hs194 dj189 u195 mem230
    refine CW.loop (fun m σ wr1 => ∃ j : Nat, ∃ a : Nat, ∃ nodes2 : List PNode, ∃ paths2 : List (List Int), ∃ Mr209 : MS, ∃ A216 : Option Addr, ∃ n217 : Nat, ∃ c218 : Nat, m = rs[k].inn.length - j ∧ σ = [(6, .pointer (some ⟨g26, 0, none⟩)), (7, .int .i64 (k : Int)), (9, .int .i64 (a : Int)), (26, .slice Ap1 rs.length cp1), (27, .int .i64 (rs.length : Int)), (28, .int .i64 (k : Int)), (47, .slice A81 (rs[k].inn.length) c82), (48, .int .i64 (rs[k].inn.length : Int)), (49, .int .i64 (j : Int))] ∧ (Up w192 M171 wr1 Mr209) ∧ (Stp w wr1 NoM) ∧ (Ms M171 Mr209) ∧ (Ms M Mr209) ∧ (Own NodeR 4 133 wr1 Mr209 0 (.slice A216 n217 c218) (nodes2)) ∧ (Own RuleR 2 100 wr1 Mr209 0 (.slice A168 ((((rs.take k).map outRule) ++ [(⟨[], [] ++ (rs[k].out)⟩ : PRule)]).length) c169) (((rs.take k).map outRule) ++ [(⟨[], [] ++ (rs[k].out)⟩ : PRule)])) ∧ (Bk wr1 g26 136 [.slice A216 n217 c218, .slice A168 ((((rs.take k).map outRule) ++ [(⟨[], [] ++ (rs[k].out)⟩ : PRule)]).length) c169]) ∧ (Bk wr1 g90 100 [.slice A81 (rs[k].inn.length) c82, .slice A83 (rs[k].out.length) c84]) ∧ (Ms (ob (.slice A216 n217 c218)) Mr209) ∧ (Wr w.heap.size NoM (ob (.slice A216 n217 c218))) ∧ (Dj (ob (.slice A216 n217 c218)) (ob (.slice A168 (((rs.take k).map outRule) ++ [(⟨[], [] ++ (rs[k].out)⟩ : PRule)]).length c169))) ∧ (Dj (ob (.slice A216 n217 c218)) (vb g26)) ∧ (Dj (ob (.slice A216 n217 c218)) (vb g90)) ∧ (j ≤ rs[k].inn.length) ∧ (TrieG rs k j nodes2 paths2) ∧ (paths2[a]? = some (rs[k].inn.take j)) ∧ (nodes2.length ≤ 1 + 8 * k + j)) _ _ (.cons (t := 6) rfl (.cons (t := 7) rfl (.cons (t := 9) rfl (.cons (t := 26) rfl (.cons (t := 27) rfl (.cons (t := 28) rfl (.cons (t := 47) rfl (.cons (t := 48) rfl (.cons (t := 49) rfl (.nil _)))))))))) ⟨0, 0, nodes, paths, M171, A51, nodes.length, c53, rfl, rfl, Up.refl hm203, e202, fun _ h => h, hs0186, h228, h231, hb193, h208, mem226, wr62, (Dj.symm dj188), dj65, (Dj.symm dj106), by omega, hG, by simpa using hG.root, by omega⟩ ?_
    rintro m _ wr1 ⟨j, a, nodes2, paths2, Mr209, A216, n217, c218, rfl, rfl, hU210, hE211, hsp213, hsb214, h215, h229, h232, h233, mem234, wr235, dj236, dj237, dj238, hj, hG2, hpa, hsz2⟩
    have hm212 := Up.mb hU210
    have hs0239 : Ms M31 Mr209 := fun k h => hsp213 k (hs0187 k h)
    obtain rfl := Own.n h215
    have hlen240 := Own.len h215
    have mem241 : Ms (ob (.slice A168 (((rs.take k).map outRule) ++ [(⟨[], [] ++ (rs[k].out)⟩ : PRule)]).length c169)) Mr209 := (fun k h => hsp213 k (mem230 k h))
    have hlen242 := Own.len h229
    have mem243 : Ms (vb g26) Mr209 := (fun k h => hsp213 k (mem200 k h))
    have mem244 : Ms (vb g90) Mr209 := (fun k h => hsp213 k ((fun k h => hsub175 k (mem159 k h)) k h))
    have hal : a < nodes2.length := by rw [← hG2.len]; exact (List.getElem?_eq_some_iff.1 hpa).1
    refine CW.seq ?_
    refine CW.region ?_
    refine WL.lss rfl rfl ?_
    refine WL.nil ?_
    refine CW.seq ?_
    refine CW.condP rfl (fun hc245 => ?_) (fun hc245 => ?_)
    · have hjl : j < rs[k].inn.length := by omega
      have hu := hi3 _ (List.getElem_mem hjl)
      obtain ⟨l, hch, _⟩ := hG2.chain a hal _ hpa
      have hfd2 := hG2.find hal hpa hch rs[k].inn[j]
      have htk : rs[k].inn.take j ++ [rs[k].inn[j]] = rs[k].inn.take (j + 1) := (List.take_succ_eq_append_getElem hjl).symm
      refine CW.skip ?_
      refine CW.seq ?_
      refine CW.block ?_
      refine CW.seq ?_
      refine CW.region ?_
      have hlt246 : j < (rs[k].inn).length := by first | omega | (simp; omega)
      obtain ⟨ad247, cs248, hA249, hs250, hat251, hR252⟩ := SlD.get (hD86.up (Up.trans u96 (Up.trans u113 (Up.trans u120 (Up.trans u133 (Up.trans u152 (Up.trans u164 (Up.trans u174 (Up.trans u195 hU210))))))))) (List.getElem?_eq_getElem hlt246)
      rw [show _ = _ from hR252.1] at hat251
      have hhR252 := hR252.2; simp only [I64] at hhR252
      refine WL.idx es29 rfl rfl hA249 (by omega) (by omega) ?_
      refine WL.load sc3 rfl (hat251.cell 0 _ rfl) ?_
      refine WL.assign rfl ?_
      refine WL.nil ?_
      refine CW.seq ?_
      refine CW.region ?_
      refine WL.move rfl ?_
      refine WL.move rfl ?_
      refine WL.move rfl ?_
      refine WL.call Try.func85 rfl rfl (.cons rfl (.cons rfl (.cons rfl .nil))) (Step_spec _ _ (MB.none _) (Bk.at_ (M := fun _ => False) h232 (fun h => h)) (Own.read00 h215 hm212) (Own.read00 h229 hm212) hal _ hch) (fun _ w253 hr254 => ?_)
      obtain ⟨rfl, he255⟩ := hr254
      have u256 := Ext.up he255 hm212
      have e257 := Stp.ext hE211 he255
      have hm258 := Up.mb u256
      cases hfd : l.find? (unitAt nodes2 rs[k].inn[j]) with
      | none =>
        have hno := hfd2.2 hfd
        show WL _ _ _ _ _ ((_, .tuple #[.int .i64 0, .bool false]) :: _) _
        refine WL.move rfl ?_
        refine WL.extract rfl rfl ?_
        refine WL.extract rfl rfl ?_
        refine WL.assign rfl ?_
        refine WL.assign rfl ?_
        refine WL.nil ?_
        refine CW.seq ?_
        refine CW.seq ?_
        refine CW.region ?_
        refine WL.move rfl ?_
        refine WL.not_ rfl ?_
        refine WL.nil ?_
        refine CW.condT rfl ?_
        refine CW.seq ?_
        refine CW.region ?_
        refine WL.move rfl ?_
        refine WL.nilCheck rfl ?_
        refine WL.fieldAddr fo136_0 rfl ?_
        have h259 := Bk.ext h232 he255
        refine WL.load sc134 rfl ((Bk.at_ (M := fun _ => False) h259 (fun h => h)).cell 0 _ rfl) ?_
        refine WL.len Try.underlying134 rfl ?_
        refine WL.assign rfl ?_
        refine WL.nil ?_
        refine CW.seq ?_
        refine CW.drawn [16, 19] (fun w1 w' => Ext w1 w') mixed (fun w260 ed261 hh262 => ?_)
        have u264 := Ext.up ed261 hm258
        have e265 := Stp.ext e257 ed261
        have hm266 := Up.mb u264
        have hcl263 := Stp.refl w260 (fun _ => False)
        refine DW.rF 0 rfl (by kernel_rfl) (fun _ _ _ h => h) (fun w' => Rn.move rfl) ?_
        refine DW.rF 1 rfl (by kernel_rfl) (fun _ _ _ h => h) (fun w' => Rn.move rfl) ?_
        refine DW.rF 2 rfl (by kernel_rfl) (fun _ _ _ h => h) (fun w' => Rn.nilCheck rfl) ?_
        refine DW.rF 3 rfl (by kernel_rfl) (fun _ _ _ h => h) (fun w' => Rn.fieldAddr fo136_0 rfl) ?_
        have h267 := Bk.ext h259 ed261
        refine DW.rT 4 rfl (by kernel_rfl) (fun _ _ _ h => h) (fun w' hC => Rn.load sc134 rfl ((Bk.at_ (M := fun _ => False) (Bk.ext h267 hC) (fun h => h)).cell 0 _ rfl)) ?_
        refine DW.rF 5 rfl (by kernel_rfl) (fun _ _ _ h => h) (fun w' => Rn.move rfl) ?_
        refine DW.rF 6 rfl (by kernel_rfl) (fun _ _ _ h => h) (fun w' => Rn.move rfl) ?_
        refine DW.rF 7 rfl (by kernel_rfl) (fun _ _ _ h => h) (fun w' => Rn.nilCheck rfl) ?_
        refine DW.rF 8 rfl (by kernel_rfl) (fun _ _ _ h => h) (fun w' => Rn.fieldAddr fo136_0 rfl) ?_
        refine DW.rT 9 rfl (by kernel_rfl) (fun _ _ _ h => h) (fun w' hC => Rn.load sc134 rfl ((Bk.at_ (M := fun _ => False) (Bk.ext h267 hC) (fun h => h)).cell 0 _ rfl)) ?_
        refine DW.rF 10 rfl (by kernel_rfl) (fun _ _ _ h => h) (fun w' => Rn.move rfl) ?_
        have hlt268 : a < nodes2.length := by first | omega | (simp; omega)
        have h275 := Own.ext h215 he255 u256 (fun _ h => h)
        have h276 := Own.ext h275 ed261 u264 (fun _ h => h)
        obtain ⟨ad269, cs270, hA271, hs272, hat273, hR274⟩ := Own.get h276 hlt268
        rw [show _ = _ from hR274.1] at hat273
        have hhR274 := hR274.2; simp only [I64] at hhR274
        refine DW.rF 11 rfl (by kernel_rfl) (fun _ _ _ h => h) (fun w' => Rn.idx es134 rfl rfl hA271 (by omega) (by omega)) ?_
        refine DW.rF 12 rfl (by kernel_rfl) (fun _ _ _ h => h) (fun w' => Rn.fieldAddr fo133_1 rfl) ?_
        refine DW.rT 13 rfl (by kernel_rfl) (fun _ _ _ h => h) (fun w' hC => Rn.load sc3 rfl (At.cell (At.up hat273 (Ext.up hC (MB.none _))) 1 _ rfl)) ?_
        refine DW.only 14 (by kernel_rfl) rfl (fun _ => hcl263) ?_
        refine WL.buildP (cs := #[.int .i64 ((rs[k].inn)[j]), .int .i64 0, .int .i64 (nodes2[a].kid), .int .i64 (-1)]) (.cons rfl (.cons rfl (.cons rfl (.nil)))) (by kernel_rfl) ?_
        refine WL.nil ?_
        refine DW.only 15 (by kernel_rfl) rfl (fun _ => hcl263) ?_
        refine WL.bslice1 (R := NodeR) (y' := (⟨(rs[k].inn)[j], 0, nodes2[a].kid, -1⟩ : PNode)) Try.underlying134 ti133 rfl (by decide) (by decide) rfl ⟨rfl, by simp only [I64]; omega, by simp only [I64]; omega, by simp only [I64]; omega, by simp only [I64]; omega⟩ rfl hm266 (fun v277 w278 hS279 he280 => ?_)
        have u281 := Ext.up he280 hm266
        have e282 := Stp.ext e265 he280
        have hm283 := Up.mb u281
        have hcl284 := Stp.ext hcl263 he280
        refine WL.nil ?_
        refine DW.only 16 (by kernel_rfl) rfl (fun _ => hcl284) ?_
        have h294 := Own.ext h276 he280 u281 (fun _ h => h)
        refine WL.appendR Try.underlying134 ti133 rfl (by decide) rfl rfl h294 (Sl.atl hS279) hm283 (by decide) (by simp; omega) (fun A285 c286 w287 M288 hO289 hs290 u291 hsub292 hnew293 => ?_)
        have e295 := Stp.wr e282 hs290 wr235
        have hm296 := Up.mb u291
        have hs0297 : Ms M M288 := fun k h => hsub292 k (hsb214 k h)
        have hs0298 : Ms M31 M288 := fun k h => hsub292 k (hs0239 k h)
        have hs0299 : Ms M171 M288 := fun k h => hsub292 k (hsp213 k h)
        have dj300 := Dj.grow dj236 hnew293 mem241 hm283
        have dj301 := Dj.grow dj237 hnew293 mem243 hm283
        have dj302 := Dj.grow dj238 hnew293 mem244 hm283
        have wr303 := Wr.grow wr235 hnew293 (Stp.size e282)
        refine WL.nil ?_
        refine DW.rF 17 rfl (by kernel_rfl) (fun _ _ _ h => h) (fun w' => Rn.nilCheck rfl) ?_
        refine DW.rF 18 rfl (by kernel_rfl) (fun _ _ _ h => h) (fun w' => Rn.fieldAddr fo136_0 rfl) ?_
        refine DW.only 19 (by kernel_rfl) rfl (notFresh (by kernel_rfl)) ?_
        have h308 := Bk.ext h267 he280
        have h309 := Bk.stp h308 hs290 ((Dj.symm dj237) _ rfl)
        have mem310 : Ms (vb g26) M288 := (fun k h => hsub292 k (mem243 k h))
        refine WL.store (o := 0) (by rw [ti134]; rfl) rfl rfl rfl h309 (Nat.le_of_ble_eq_true rfl) (fun w304 hb311 hs306 => ?_)
        have hb305 : Bk w304 g26 136 [.slice A285 ((nodes2 ++ [(⟨(rs[k].inn)[j], 0, nodes2[a].kid, -1⟩ : PNode)]).length) c286, .slice A168 ((((rs.take k).map outRule) ++ [(⟨[], [] ++ (rs[k].out)⟩ : PRule)]).length) c169] := hb311
        have u307 := Stp.upM hs306 hm296 mem310
        have e312 := Stp.wr e295 hs306 wr43
        have hm313 := Up.mb u307
        refine WL.nil ?_
        refine DW.done (by kernel_rfl) (notFresh (by kernel_rfl)) ?_
        refine CW.region ?_
        refine WL.move rfl ?_
        refine WL.nilCheck rfl ?_
        refine WL.fieldAddr fo136_0 rfl ?_
        refine WL.load sc134 rfl ((Bk.at_ (M := fun _ => False) hb305 (fun h => h)).cell 0 _ rfl) ?_
        refine WL.move rfl ?_
        refine WL.move rfl ?_
        have hlt314 : a < (nodes2 ++ [(⟨(rs[k].inn)[j], 0, nodes2[a].kid, -1⟩ : PNode)]).length := by first | omega | (simp; omega)
        have mem321 : Ms (ob (.slice A285 (nodes2 ++ [(⟨(rs[k].inn)[j], 0, nodes2[a].kid, -1⟩ : PNode)]).length c286)) M288 := (Own.ms hO289)
        have h322 := Own.step hO289 hs306 dj301 u307 mem321
        obtain ⟨ad315, cs316, hA317, hs318, hat319, hR320⟩ := Own.get h322 hlt314
        rw [show _ = _ from hR320.1] at hat319
        have hhR320 := hR320.2; simp only [I64] at hhR320
        refine WL.idx es134 rfl rfl hA317 (by omega) (by omega) ?_
        refine WL.fieldAddr fo133_1 rfl ?_
        refine WL.storeOwn (x' := { (nodes2 ++ [(⟨(rs[k].inn)[j], 0, nodes2[a].kid, -1⟩ : PNode)])[a] with kid := (nodes2.length : Int) }) (off := 1) h322 hA317 hm313 hlt314 (by decide) (by rw [ti3]; rfl) rfl rfl rfl (fun w' cs h => ⟨by rw [h.1]; rfl, h.2.1, by simp only [I64]; omega, h.2.2.2.1, h.2.2.2.2⟩) (fun w323 hO324 hs325 u326 => ?_)
        have e327 := Stp.wr e312 hs325 wr303
        have hm328 := Up.mb u326
        refine WL.nil ?_
        refine CW.region ?_
        refine WL.move rfl ?_
        refine WL.assign rfl ?_
        refine WL.nil ?_
        refine CW.region ?_
        refine WL.add rfl rfl (by omega) ?_
        refine WL.move rfl ?_
        refine WL.nil ?_
        have hG4 := hG2.grow hkl hjl hal hpa hno
        have hpn : (paths2 ++ [rs[k].inn.take j ++ [rs[k].inn[j]]])[nodes2.length]? = some (rs[k].inn.take (j + 1)) := by rw [← hG2.len, htk]; simp
        have hxe : (nodes2 ++ [(⟨(rs[k].inn)[j], 0, nodes2[a].kid, -1⟩ : PNode)]).set a ({ (nodes2 ++ [(⟨(rs[k].inn)[j], 0, nodes2[a].kid, -1⟩ : PNode)])[a] with kid := (nodes2.length : Int) }) = (nodes2 ++ [(⟨rs[k].inn[j], 0, nodes2[a].kid, -1⟩ : PNode)]).set a { nodes2[a] with kid := (nodes2.length : Int) } := by simp only [List.getElem_append_left hal]
        have h329 := Own.ext h229 he255 u256 (fun _ h => h)
        have h330 := Own.ext h329 ed261 u264 (fun _ h => h)
        have h331 := Own.ext h330 he280 u281 (fun _ h => h)
        have mem332 : Ms (ob (.slice A168 (((rs.take k).map outRule) ++ [(⟨[], [] ++ (rs[k].out)⟩ : PRule)]).length c169)) M288 := (fun k h => hsub292 k (mem241 k h))
        have h333 := Own.step h331 hs290 (Dj.symm dj236) u291 mem332
        have h334 := Own.step h333 hs306 dj189 u307 mem332
        have h335 := Own.step h334 hs325 (Dj.symm dj300) u326 mem332
        have h336 := Bk.stp hb305 hs325 ((Dj.symm dj301) _ rfl)
        have h337 := Bk.ext h233 he255
        have h338 := Bk.ext h337 ed261
        have h339 := Bk.ext h338 he280
        have h340 := Bk.stp h339 hs290 ((Dj.symm dj238) _ rfl)
        have h341 := Bk.stp h340 hs306 (dj108 _ rfl)
        have h342 := Bk.stp h341 hs325 ((Dj.symm dj302) _ rfl)
        refine Loop.again _ _ ?_ ?_ ⟨j + 1, nodes2.length, _, _, M288, A285, (nodes2 ++ [(⟨(rs[k].inn)[j], 0, nodes2[a].kid, -1⟩ : PNode)]).length, c286, rfl, rfl, (Up.trans hU210 (Up.trans u256 (Up.trans u264 (Up.trans u281 (Up.trans u291 (Up.trans u307 u326)))))), e327, hs0299, hs0297, hxe ▸ hO324, h335, h336, h342, mem321, wr303, dj300, dj301, dj302, by omega, hG4, hpn, by simp only [List.length_set, List.length_append, List.length_cons, List.length_nil]; omega⟩
        · omega
        · exact .cons (t := 6) rfl (.cons (t := 7) rfl (.cons (t := 9) rfl (.cons (t := 26) rfl (.cons (t := 27) rfl (.cons (t := 28) rfl (.cons (t := 47) rfl (.cons (t := 48) rfl (.cons (t := 49) rfl (.nil _)))))))))
      | some b_ =>
        obtain ⟨hpb, hbl⟩ := hfd2.1 b_ hfd
        rw [htk] at hpb
        show WL _ _ _ _ _ ((_, .tuple #[.int .i64 (b_ : Int), .bool true]) :: _) _
        refine WL.move rfl ?_
        refine WL.extract rfl rfl ?_
        refine WL.extract rfl rfl ?_
        refine WL.assign rfl ?_
        refine WL.assign rfl ?_
        refine WL.nil ?_
        refine CW.seq ?_
        refine CW.seq ?_
        refine CW.region ?_
        refine WL.move rfl ?_
        refine WL.not_ rfl ?_
        refine WL.nil ?_
        refine CW.condF rfl ?_
        refine CW.skip ?_
        refine CW.region ?_
        refine WL.move rfl ?_
        refine WL.assign rfl ?_
        refine WL.nil ?_
        refine CW.region ?_
        refine WL.add rfl rfl (by omega) ?_
        refine WL.move rfl ?_
        refine WL.nil ?_
        have h343 := Own.ext h215 he255 u256 (fun _ h => h)
        have h344 := Own.ext h229 he255 u256 (fun _ h => h)
        have h345 := Bk.ext h232 he255
        have h346 := Bk.ext h233 he255
        refine Loop.again _ _ ?_ ?_ ⟨j + 1, b_, nodes2, paths2, Mr209, A216, nodes2.length, c218, rfl, rfl, (Up.trans hU210 u256), e257, hsp213, hsb214, h343, h344, h345, h346, mem234, wr235, dj236, dj237, dj238, by omega, hG2.step hkl hjl (List.mem_of_getElem? hpb), hpb, by omega⟩
        · omega
        · exact .cons (t := 6) rfl (.cons (t := 7) rfl (.cons (t := 9) rfl (.cons (t := 26) rfl (.cons (t := 27) rfl (.cons (t := 28) rfl (.cons (t := 47) rfl (.cons (t := 48) rfl (.cons (t := 49) rfl (.nil _)))))))))
    · have hje : j = rs[k].inn.length := by omega
      subst hje
      rw [List.take_length] at hpa
      refine CW.exit ?_
      refine CW.region ?_
      refine WL.move rfl ?_
      refine WL.nilCheck rfl ?_
      refine WL.fieldAddr fo136_0 rfl ?_
      refine WL.load sc134 rfl ((Bk.at_ (M := fun _ => False) h232 (fun h => h)).cell 0 _ rfl) ?_
      refine WL.move rfl ?_
      refine WL.move rfl ?_
      have hlt347 : a < nodes2.length := by first | omega | (simp; omega)
      obtain ⟨ad348, cs349, hA350, hs351, hat352, hR353⟩ := Own.get h215 hlt347
      rw [show _ = _ from hR353.1] at hat352
      have hhR353 := hR353.2; simp only [I64] at hhR353
      refine WL.idx es134 rfl rfl hA350 (by omega) (by omega) ?_
      refine WL.fieldAddr fo133_3 rfl ?_
      refine WL.storeOwn (x' := { nodes2[a] with rule := (k : Int) }) (off := 3) h215 hA350 hm212 hlt347 (by decide) (by rw [ti3]; rfl) rfl rfl rfl (fun w' cs h => ⟨by rw [h.1]; rfl, h.2.1, h.2.2.1, h.2.2.2.1, by simp only [I64]; omega⟩) (fun w354 hO355 hs356 u357 => ?_)
      have e358 := Stp.wr hE211 hs356 wr235
      have hm359 := Up.mb u357
      have hG3 := hG2.close hg.right hkl (Nat.le_refl _) hal hpa
      refine WL.nil ?_
      refine CW.region ?_
      refine WL.add rfl rfl (by omega) ?_
      refine WL.move rfl ?_
      refine WL.nil ?_
      have h360 := Own.step h229 hs356 (Dj.symm dj236) u357 mem241
      have h361 := Bk.stp h232 hs356 ((Dj.symm dj237) _ rfl)
      refine Loop.again _ _ ?_ ?_ ⟨k + 1, _, _, Mr209, A216, nodes2.length, c218, A168, (((rs.take k).map outRule) ++ [(⟨[], [] ++ (rs[k].out)⟩ : PRule)]).length, c169, rfl, rfl, (Up.trans hU45 (Up.trans u96 (Up.trans u113 (Up.trans u120 (Up.trans u133 (Up.trans u152 (Up.trans u164 (Up.trans u174 (Up.trans u195 (Up.trans hU210 u357)))))))))), e358, hs0239, hsb214, hO355, by rw [map_take_succ _ (show k < rs.length by omega)]; exact h360, h361, mem234, wr235, dj236, dj237, mem241, wr191, dj189, by omega, hG3, by simp only [List.length_set]; omega⟩
      · omega
      · exact .cons (t := 6) rfl (.cons (t := 26) rfl (.cons (t := 27) rfl (.cons (t := 28) rfl (.nil _))))
  · refine CW.exit ?_
    refine CW.seq ?_
    refine CW.region ?_
    refine WL.move rfl ?_
    refine WL.assign rfl ?_
    refine WL.assign rfl ?_
    refine WL.nil ?_
    refine CW.ret ?_
    refine Ret.two rfl rfl rfl ?_
    have hke : k = rs.length := by omega
    have hG5 : TrieG rs rs.length 0 nodes paths := hke ▸ hG
    have hD362 := Own.freeze h50 hm47
    have u363 := Up.freeze hm47 (ob (.slice A51 nodes.length c53))
    have hs0364 : Ms M (less Mr44 (ob (.slice A51 nodes.length c53))) := Ms.less hsb49 (Dj.symm (Dj.fresh (Wr.fr wr62) (fun _ h => h) hm))
    have hm365 := Up.mb u363
    have mem366 : Ms (ob (.slice A56 ((rs.take k).map outRule).length c58)) (less Mr44 (ob (.slice A51 nodes.length c53))) := (Ms.less mem66 (Dj.symm dj64))
    have mem367 : Ms (vb g26) (less Mr44 (ob (.slice A51 nodes.length c53))) := (Ms.less mem72 (Dj.symm dj65))
    have h368 := Own.to h55 u363 mem366
    have hD369 := Own.freeze h368 hm365
    have u370 := Up.freeze hm365 (ob (.slice A56 ((rs.take k).map outRule).length c58))
    have hs0371 : Ms M (less (less Mr44 (ob (.slice A51 nodes.length c53))) (ob (.slice A56 ((rs.take k).map outRule).length c58))) := Ms.less hs0364 (Dj.symm (Dj.fresh (Wr.fr wr67) (fun _ h => h) hm))
    have hm372 := Up.mb u370
    have mem373 : Ms (vb g26) (less (less Mr44 (ob (.slice A51 nodes.length c53))) (ob (.slice A56 ((rs.take k).map outRule).length c58))) := (Ms.less mem367 (Dj.symm dj69))
    have h374 := h60
    have h375 := h374
    have hD376 := Bk.fz h375 hm372
    have u377 := Up.freeze hm372 (vb g26)
    have hs0378 : Ms M (less (less (less Mr44 (ob (.slice A51 nodes.length c53))) (ob (.slice A56 ((rs.take k).map outRule).length c58))) (vb g26)) := Ms.less hs0371 (Dj.symm (Dj.fresh (Ge.le ge36 (Stp.size (Up.stp (Up.trans u4 u15)))) (fun _ h => h) hm))
    have hm379 := Up.mb u377
    obtain ⟨kids, hkd, hlg⟩ := hG5.longs hg.right
    have u380 := Up.here hm379 hs0378
    exact ⟨⟨_, rfl, _, _, _, _, nodes, _, kids, hD376.up u380, (hD362.up (Up.trans u370 u377)).up u380, (hD369.up u377).up u380, by rw [hke, List.take_length], hG.pos, hkd, hlg⟩, hE46⟩
end Go.Proofs.Ytgbajkdomcmblaa
