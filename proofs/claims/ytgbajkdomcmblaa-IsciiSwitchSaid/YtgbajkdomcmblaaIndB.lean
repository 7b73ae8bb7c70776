/- The rules of ISCII, as package indic makes them: a walk. -/
import Derived.Test.YtgbajkdomcmblaaIndA
namespace Go.Proofs.Ytgbajkdomcmblaa
open Go Go.RowKit Vc
set_option linter.unusedVariables false
set_option linter.unusedSimpArgs false
private theorem mixed : Try.prog.follows .mixedOrders = true := by kernel_rfl
private theorem es150 : elemSize Try.prog 150 = some 2 := by kernel_rfl
private theorem esa152 : elemSizeA Try.prog 152 = some (2, 1) := by kernel_rfl
private theorem sc3 : scalar Try.prog 3 = true := by kernel_rfl
private theorem ag152 : aggSize Try.prog 152 = some 2 := by kernel_rfl
private theorem ti3 : tinfo Try.prog 3 = some (some (.int .i64 0), 1, 8) := by kernel_rfl
private theorem ti100 : tinfo Try.prog 100 = some (some (.agg #[.slice none 0 0, .slice none 0 0]), 2, 48) := by kernel_rfl
private theorem ti152 : tinfo Try.prog 152 = some (some (.agg #[.int .i64 0, .int .i64 0]), 2, 16) := by kernel_rfl
theorem place_range {c n : Int} (h : placeO c = some n) : 0 ≤ n ∧ n ≤ 1000 := by
  have key : ∀ i : Nat, placesL.getD i 0 ≤ 1000 := fun i => by
    by_cases hi : i < placesL.length
    · have h1 : ∀ x ∈ placesL, x ≤ 1000 := by decide
      rw [List.getD_eq_getElem?_getD, List.getElem?_eq_getElem hi]
      exact h1 _ (List.getElem_mem hi)
    · rw [List.getD_eq_getElem?_getD, List.getElem?_eq_none (by omega)]; decide
  unfold placeO at h
  split at h
  · split at h
    · cases h; exact ⟨by assumption, key _⟩
    · cases h
  · split at h
    · cases h; omega
    · cases h
theorem codes_range (k : Nat) (h : k < 9) : 0 ≤ codesL.getD (k : Int).toNat 0 ∧ codesL.getD (k : Int).toNat 0 ≤ 255 := by
  have : ∀ k : Nat, k < 9 → 0 ≤ codesL.getD k 0 ∧ codesL.getD k 0 ≤ 255 := by decide
  exact this k h
theorem indB_len (k : Nat) : (indB k).length ≤ k := by
  have := List.length_filterMap_le (fun (i : Nat) => (placeO (161 + (i : Int))).map fun n => (⟨[161 + (i : Int)], [n]⟩ : PRule)) (List.range k)
  simpa [indB] using this

theorem indRules_spec (w : World) (M : MS) (hm : MB w M) :
    Fc Try.prog 94 #[] w fun v w' => ∃ M', NewR RuleR 2 100 w M w' M' v indR := by
  have e0 := Stp.refl w (NoM : MS)
  have hs00 : Ms M M := fun _ h => h
  refine Fc.enter (n := 96) [] Try.func94 rfl rfl (Nat.le_of_ble_eq_true rfl) (.nil _) ?_
  refine CW.seq ?_
  refine CW.region ?_
  refine WL.assign rfl ?_
  refine WL.nil ?_
  refine CW.seq ?_
  refine CW.region ?_
  refine WL.assign rfl ?_
  refine WL.nil ?_
  refine CW.seq ?_
  refine CW.seq ?_
  refine CW.region ?_
  refine WL.move rfl ?_
  refine WL.nil ?_
  refine CW.block ?_
  have hO1 : Own RuleR 2 100 w M 0 (.slice none 0 0) [] := Own.nil
  refine CW.loop (fun m σ wr0 => ∃ k : Nat, ∃ Mr2 : MS, ∃ A9 : Option Addr, ∃ n10 : Nat, ∃ c11 : Nat, m = 128 - k ∧ σ = [(1, .slice A9 n10 c11), (9, .int .i64 (k : Int))] ∧ (Up w M wr0 Mr2) ∧ (Stp w wr0 NoM) ∧ (Ms M Mr2) ∧ (Ms M Mr2) ∧ (Own RuleR 2 100 wr0 Mr2 0 (.slice A9 n10 c11) (indA k)) ∧ (Ms (ob (.slice A9 n10 c11)) Mr2) ∧ (∀ q_, (ob (.slice A9 n10 c11)) q_ → w.heap.size ≤ q_) ∧ (k ≤ 128)) _ _ (.cons (t := 1) rfl (.cons (t := 9) rfl (.nil _))) ⟨0, M, none, 0, 0, rfl, rfl, Up.refl hm, e0, fun _ h => h, hs00, hO1, (Ms.nil M), (Fr.nil w.heap.size), by omega⟩ ?_
  rintro m _ wr0 ⟨k, Mr2, A9, n10, c11, rfl, rfl, hU3, hE4, hsp6, hsb7, h8, mem12, wr13, hk⟩
  have hm5 := Up.mb hU3
  obtain rfl := Own.n h8
  have hlen14 := Own.len h8
  have hal : (indA k).length = k := by simp [indA]
  refine CW.seq ?_
  refine CW.region ?_
  refine WL.lss rfl rfl ?_
  refine WL.nil ?_
  refine CW.seq ?_
  refine CW.condP rfl (fun hc15 => ?_) (fun hc15 => ?_)
  · refine CW.skip ?_
    refine CW.seq ?_
    refine CW.block ?_
    refine CW.seq ?_
    refine CW.region ?_
    refine WL.move rfl ?_
    refine WL.assign rfl ?_
    refine WL.nil ?_
    refine CW.region ?_
    refine WL.move rfl ?_
    refine WL.move rfl ?_
    refine WL.bslice1 (R := IntR) (y' := (k : Int)) Try.underlying29 ti3 rfl (by decide) (by decide) rfl ⟨rfl, by omega⟩ rfl hm5 (fun v16 w17 hS18 he19 => ?_)
    obtain ⟨A20, c21, rfl, hD22⟩ := hS18
    have u23 := Ext.up he19 hm5
    have e24 := Stp.ext hE4 he19
    have hm25 := Up.mb u23
    refine WL.move rfl ?_
    refine WL.add rfl rfl (by omega) ?_
    refine WL.bslice1 (R := IntR) (y' := 8192 + (k : Int)) Try.underlying29 ti3 rfl (by decide) (by decide) rfl ⟨rfl, by omega⟩ rfl hm25 (fun v26 w27 hS28 he29 => ?_)
    obtain ⟨A30, c31, rfl, hD32⟩ := hS28
    have u33 := Ext.up he29 hm25
    have e34 := Stp.ext e24 he29
    have hm35 := Up.mb u33
    refine WL.buildP (cs := #[.slice A20 ([(k : Int)].length) c21, .slice A30 ([8192 + (k : Int)].length) c31]) (.cons rfl (.cons rfl (.nil))) (by kernel_rfl) ?_
    refine WL.bslice1 (R := RuleR) (y' := (⟨[(k : Int)], [8192 + (k : Int)]⟩ : PRule)) Try.underlying49 ti100 rfl (by decide) (by decide) rfl ⟨_, _, rfl, (SlD.sl (hD22.up u33)), (SlD.sl hD32)⟩ rfl hm35 (fun v36 w37 hS38 he39 => ?_)
    obtain ⟨A40, c41, rfl, hD42⟩ := hS38
    have u43 := Ext.up he39 hm35
    have e44 := Stp.ext e34 he39
    have hm45 := Up.mb u43
    have h55 := Own.ext h8 he19 u23 (fun _ h => h)
    have h56 := Own.ext h55 he29 u33 (fun _ h => h)
    have h57 := Own.ext h56 he39 u43 (fun _ h => h)
    refine WL.appendR Try.underlying49 ti100 rfl (by decide) rfl rfl h57 (Sl.atl (SlD.sl hD42)) hm45 (by decide) (by simp only [List.length_append, List.length_cons, List.length_nil, List.length_singleton]; first | omega | (simp [indF]; omega)) (fun A46 c47 w48 M49 hO50 hs51 u52 hsub53 hnew54 => ?_)
    have e58 := Stp.wr e44 hs51 (Wr.ofFr NoM wr13)
    have hm59 := Up.mb u52
    have hs060 : Ms M M49 := fun k h => hsub53 k (hsp6 k h)
    have fr62 := Ge.grow wr13 hnew54 (Stp.size e44)
    refine WL.assign rfl ?_
    refine WL.nil ?_
    refine CW.region ?_
    refine WL.add rfl rfl (by omega) ?_
    refine WL.move rfl ?_
    refine WL.nil ?_
    refine Loop.again _ _ ?_ ?_ ⟨k + 1, M49, A46, ((indA k) ++ [(⟨[(k : Int)], [8192 + (k : Int)]⟩ : PRule)]).length, c47, rfl, rfl, (Up.trans hU3 (Up.trans u23 (Up.trans u33 (Up.trans u43 u52)))), e58, hs060, hs060, Own.eq hO50 (indA_succ k).symm, (Own.ms hO50), fr62, by omega⟩
    · omega
    · exact .cons (t := 1) rfl (.cons (t := 9) rfl (.nil _))
  · have hka : k = 128 := by omega
    refine CW.exit ?_
    refine CW.seq ?_
    refine CW.seq ?_
    refine CW.region ?_
    refine WL.assign rfl ?_
    refine WL.nil ?_
    refine CW.block ?_
    refine CW.loop (fun m σ wr1 => ∃ c : Int, ∃ Mr63 : MS, ∃ A70 : Option Addr, ∃ n71 : Nat, ∃ c72 : Nat, m = (251 - c).toNat ∧ σ = [(1, .slice A70 n71 c72), (3, .int .i64 c)] ∧ (Up wr0 Mr2 wr1 Mr63) ∧ (Stp w wr1 NoM) ∧ (Ms Mr2 Mr63) ∧ (Ms M Mr63) ∧ (Own RuleR 2 100 wr1 Mr63 0 (.slice A70 n71 c72) (indA 128 ++ indB (c - 161).toNat)) ∧ (Ms (ob (.slice A70 n71 c72)) Mr63) ∧ (∀ q_, (ob (.slice A70 n71 c72)) q_ → w.heap.size ≤ q_) ∧ (161 ≤ c) ∧ (c ≤ 251)) _ _ (.cons (t := 1) rfl (.cons (t := 3) rfl (.nil _))) ⟨161, Mr2, A9, (indA k).length, c11, rfl, rfl, Up.refl hm5, hE4, fun _ h => h, hsp6, Own.eq h8 (by rw [hka]; simp [indB]), mem12, wr13, by omega, by omega⟩ ?_
    rintro m _ wr1 ⟨c, Mr63, A70, n71, c72, rfl, rfl, hU64, hE65, hsp67, hsb68, h69, mem73, wr74, hc0, hc1⟩
    have hm66 := Up.mb hU64
    obtain rfl := Own.n h69
    have hlen75 := Own.len h69
    have hal2 : (indA 128).length = 128 := by simp [indA]
    have hbl := indB_len (c - 161).toNat
    refine CW.seq ?_
    refine CW.seq ?_
    refine CW.region ?_
    refine WL.move rfl ?_
    refine WL.leq rfl rfl ?_
    refine WL.nil ?_
    refine CW.condP rfl (fun hc76 => ?_) (fun hc76 => ?_)
    · refine CW.skip ?_
      refine CW.seq ?_
      refine CW.block ?_
      refine CW.seq ?_
      refine CW.region ?_
      refine WL.move rfl ?_
      refine WL.convert (by rw [Try.underlying3]; rfl) Try.underlying5 rfl (wrapU8 (by omega) (by omega)) ?_
      refine WL.call Try.func111 rfl rfl (.cons rfl .nil) (place_spec _ _ hm66 (c_ := c) (by omega) (by omega)) (fun _ w77 hr78 => ?_)
      obtain ⟨rfl, he79⟩ := hr78
      have u80 := Ext.up he79 hm66
      have e81 := Stp.ext hE65 he79
      have hm82 := Up.mb u80
      cases hpo : placeO c with
      | none =>
        show WL _ _ _ _ _ ((_, .tuple #[.int .i64 0, .bool false]) :: _) _
        refine WL.move rfl ?_
        refine WL.extract rfl rfl ?_
        refine WL.extract rfl rfl ?_
        refine WL.assign rfl ?_
        refine WL.assign rfl ?_
        refine WL.nil ?_
        refine CW.seq ?_
        refine CW.region ?_
        refine WL.move rfl ?_
        refine WL.nil ?_
        refine CW.condF rfl ?_
        refine CW.skip ?_
        refine CW.region ?_
        refine WL.move rfl ?_
        refine WL.add rfl rfl (by omega) ?_
        refine WL.assign rfl ?_
        refine WL.nil ?_
        have hcs : (c + 1 - 161).toNat = (c - 161).toNat + 1 := by omega
        have hce : 161 + ((c - 161).toNat : Int) = c := by omega
        have h83 := Own.ext h69 he79 u80 (fun _ h => h)
        refine Loop.again _ _ ?_ ?_ ⟨c + 1, Mr63, A70, (indA 128 ++ indB (c - 161).toNat).length, c72, rfl, rfl, (Up.trans hU64 u80), e81, hsp67, hsb68, Own.eq h83 (by rw [hcs, indB_succ, hce, hpo]; simp), mem73, wr74, by omega, by omega⟩
        · omega
        · exact .cons (t := 1) rfl (.cons (t := 3) rfl (.nil _))
      | some n_ =>
        have hnr := place_range hpo
        show WL _ _ _ _ _ ((_, .tuple #[.int .i64 n_, .bool true]) :: _) _
        refine WL.move rfl ?_
        refine WL.extract rfl rfl ?_
        refine WL.extract rfl rfl ?_
        refine WL.assign rfl ?_
        refine WL.assign rfl ?_
        refine WL.nil ?_
        refine CW.seq ?_
        refine CW.region ?_
        refine WL.move rfl ?_
        refine WL.nil ?_
        refine CW.condT rfl ?_
        refine CW.region ?_
        refine WL.move rfl ?_
        refine WL.move rfl ?_
        refine WL.bslice1 (R := IntR) (y' := c) Try.underlying29 ti3 rfl (by decide) (by decide) rfl ⟨rfl, by omega⟩ rfl hm82 (fun v84 w85 hS86 he87 => ?_)
        obtain ⟨A88, c89, rfl, hD90⟩ := hS86
        have u91 := Ext.up he87 hm82
        have e92 := Stp.ext e81 he87
        have hm93 := Up.mb u91
        refine WL.move rfl ?_
        refine WL.bslice1 (R := IntR) (y' := n_) Try.underlying29 ti3 rfl (by decide) (by decide) rfl ⟨rfl, by omega⟩ rfl hm93 (fun v94 w95 hS96 he97 => ?_)
        obtain ⟨A98, c99, rfl, hD100⟩ := hS96
        have u101 := Ext.up he97 hm93
        have e102 := Stp.ext e92 he97
        have hm103 := Up.mb u101
        refine WL.buildP (cs := #[.slice A88 ([c].length) c89, .slice A98 ([n_].length) c99]) (.cons rfl (.cons rfl (.nil))) (by kernel_rfl) ?_
        refine WL.bslice1 (R := RuleR) (y' := (⟨[c], [n_]⟩ : PRule)) Try.underlying49 ti100 rfl (by decide) (by decide) rfl ⟨_, _, rfl, (SlD.sl (hD90.up u101)), (SlD.sl hD100)⟩ rfl hm103 (fun v104 w105 hS106 he107 => ?_)
        obtain ⟨A108, c109, rfl, hD110⟩ := hS106
        have u111 := Ext.up he107 hm103
        have e112 := Stp.ext e102 he107
        have hm113 := Up.mb u111
        have h123 := Own.ext h69 he79 u80 (fun _ h => h)
        have h124 := Own.ext h123 he87 u91 (fun _ h => h)
        have h125 := Own.ext h124 he97 u101 (fun _ h => h)
        have h126 := Own.ext h125 he107 u111 (fun _ h => h)
        refine WL.appendR Try.underlying49 ti100 rfl (by decide) rfl rfl h126 (Sl.atl (SlD.sl hD110)) hm113 (by decide) (by simp only [List.length_append, List.length_cons, List.length_nil, List.length_singleton]; first | omega | (simp [indF]; omega)) (fun A114 c115 w116 M117 hO118 hs119 u120 hsub121 hnew122 => ?_)
        have e127 := Stp.wr e112 hs119 (Wr.ofFr NoM wr74)
        have hm128 := Up.mb u120
        have hs0129 : Ms M M117 := fun k h => hsub121 k (hsb68 k h)
        have hs0130 : Ms Mr2 M117 := fun k h => hsub121 k (hsp67 k h)
        have fr132 := Ge.grow wr74 hnew122 (Stp.size e112)
        refine WL.assign rfl ?_
        refine WL.nil ?_
        refine CW.region ?_
        refine WL.move rfl ?_
        refine WL.add rfl rfl (by omega) ?_
        refine WL.assign rfl ?_
        refine WL.nil ?_
        have hcs : (c + 1 - 161).toNat = (c - 161).toNat + 1 := by omega
        have hce : 161 + ((c - 161).toNat : Int) = c := by omega
        refine Loop.again _ _ ?_ ?_ ⟨c + 1, M117, A114, ((indA 128 ++ indB (c - 161).toNat) ++ [(⟨[c], [n_]⟩ : PRule)]).length, c115, rfl, rfl, (Up.trans hU64 (Up.trans u80 (Up.trans u91 (Up.trans u101 (Up.trans u111 u120))))), e127, hs0130, hs0129, Own.eq hO118 (by rw [hcs, indB_succ, hce, hpo]; simp), (Own.ms hO118), fr132, by omega, by omega⟩
        · omega
        · exact .cons (t := 1) rfl (.cons (t := 3) rfl (.nil _))
    · have hcb : (c - 161).toNat = 90 := by omega
      refine CW.exit ?_
      refine CW.seq ?_
      refine CW.seq ?_
      refine CW.region ?_
      refine WL.call Try.func112 rfl rfl (.nil) (nukta_spec _ _ hm66) (fun _ w136 hr137 => ?_)
      obtain ⟨⟨A133, c134, rfl, hD135⟩, he138⟩ := hr137
      have u139 := Ext.up he138 hm66
      have e140 := Stp.ext hE65 he138
      have hm141 := Up.mb u139
      refine WL.len Try.underlying150 rfl ?_
      refine WL.move rfl ?_
      refine WL.nil ?_
      refine CW.block ?_
      have h152 := Own.ext h69 he138 u139 (fun _ h => h)
      refine CW.loop (fun m σ wr2 => ∃ k2 : Nat, ∃ Mr142 : MS, ∃ A149 : Option Addr, ∃ n150 : Nat, ∃ c151 : Nat, m = 14 - k2 ∧ σ = [(1, .slice A149 n150 c151), (41, .slice A133 nuktaL.length c134), (42, .int .i64 (nuktaL.length : Int)), (43, .int .i64 (k2 : Int))] ∧ (Up w136 Mr63 wr2 Mr142) ∧ (Stp w wr2 NoM) ∧ (Ms Mr63 Mr142) ∧ (Ms M Mr142) ∧ (Own RuleR 2 100 wr2 Mr142 0 (.slice A149 n150 c151) (indA 128 ++ indB 90 ++ indC k2)) ∧ (Ms (ob (.slice A149 n150 c151)) Mr142) ∧ (∀ q_, (ob (.slice A149 n150 c151)) q_ → w.heap.size ≤ q_) ∧ (k2 ≤ 14)) _ _ (.cons (t := 1) rfl (.cons (t := 41) rfl (.cons (t := 42) rfl (.cons (t := 43) rfl (.nil _))))) ⟨0, Mr63, A70, (indA 128 ++ indB (c - 161).toNat).length, c72, rfl, rfl, Up.refl hm141, e140, fun _ h => h, hsb68, Own.eq h152 (by rw [hcb]; simp [indC]), mem73, wr74, by omega⟩ ?_
      rintro m _ wr2 ⟨k2, Mr142, A149, n150, c151, rfl, rfl, hU143, hE144, hsp146, hsb147, h148, mem153, wr154, hk2⟩
      have hm145 := Up.mb hU143
      have hs0155 : Ms Mr2 Mr142 := fun k h => hsp146 k (hsp67 k h)
      obtain rfl := Own.n h148
      have hlen156 := Own.len h148
      have hcl : (indC k2).length ≤ 14 := by simp [indC]; omega
      have hbl9 := indB_len 90
      have hnl : nuktaL.length = 14 := rfl
      refine CW.seq ?_
      refine CW.region ?_
      refine WL.lss rfl rfl ?_
      refine WL.nil ?_
      refine CW.seq ?_
      refine CW.condP rfl (fun hc157 => ?_) (fun hc157 => ?_)
      · have hk2l : k2 < nuktaL.length := by omega
        refine CW.skip ?_
        refine CW.seq ?_
        refine CW.block ?_
        refine CW.seq ?_
        refine CW.region ?_
        have hlt158 : k2 < nuktaL.length := by omega
        obtain ⟨ad159, cs160, hA161, hs162, hat163, hR164⟩ := SlD.get (hD135.up hU143) (List.getElem?_eq_getElem hlt158)
        rw [show _ = _ from hR164.1] at hat163
        have hhR164 := hR164.2; simp only [I64] at hhR164
        refine WL.idx es150 rfl rfl hA161 (by omega) (by omega) ?_
        refine WL.loadAgg (cs := [.int .i64 (nuktaL[k2].1), .int .i64 (nuktaL[k2].2)]) ag152 rfl hat163 ?_
        refine WL.alloc (cs := [.int .i64 0, .int .i64 0]) ti152 rfl (fun g165 w166 hg167 hb168 he169 => ?_)
        obtain ⟨M170, u171, mem172, hsub173, hinv174⟩ := Ext.addVar he169 hm145 hg167 hb168
        have ge175 : ∀ q_, vb g165 q_ → wr2.heap.size ≤ q_ := fun q_ hq_ => by rw [hq_]; exact hg167
        have mem176 := Ms.one mem172
        have e177 := Stp.ext hE144 he169
        have hm178 := Up.mb u171
        have hs0179 : Ms M M170 := fun k h => hsub173 k (hsb147 k h)
        have hs0180 : Ms Mr2 M170 := fun k h => hsub173 k (hs0155 k h)
        have hs0181 : Ms Mr63 M170 := fun k h => hsub173 k (hsp146 k h)
        have dj182 := Dj.fresh (T := (ob (.slice A149 (indA 128 ++ indB 90 ++ indC k2).length c151))) ge175 mem153 hm145
        have fr183 := Ge.le ge175 (Stp.size hE144)
        refine WL.storeAll (vs := [.int .i64 (nuktaL[k2].1), .int .i64 (nuktaL[k2].2)]) (by rw [ti152]; rfl) rfl rfl (by simp [Value.oneCell']) hb168 rfl (fun w184 hb185 hs186 => ?_)
        have u187 := Stp.upM hs186 hm178 mem176
        have e188 := Stp.wr e177 hs186 (Wr.ofFr NoM fr183)
        have hm189 := Up.mb u187
        refine WL.nil ?_
        refine CW.region ?_
        refine WL.move rfl ?_
        refine WL.rn (Rn.idxArr esa152 rfl rfl (by decide) (by decide)) ?_
        refine WL.load sc3 rfl ((Bk.at_ (M := fun _ => False) hb185 (fun h => h)).cell 0 _ rfl) ?_
        refine WL.bslice Try.underlying29 ti3 rfl (by decide) (by decide) (.cons rfl (.cons rfl (.nil))) rfl (by simp [Value.cells]) (fun g190 w191 hg192 hb193 he194 => ?_)
        have hD195 : SlD IntR 1 w191 M170 (some ⟨g190, 0, none⟩) 2 ([nuktaL[k2].1, 233] : List Int) := Bk.ints (xs := [nuktaL[k2].1, 233]) hb193 (by intro x_ hx_; simp only [List.mem_cons, List.not_mem_nil, or_false] at hx_; rcases hx_ with rfl | rfl <;> (simp only [I64]; omega)) (MB.fresh hm189 hg192) (Nat.le_of_ble_eq_true rfl)
        have u196 := Ext.up he194 hm189
        have e197 := Stp.ext e188 he194
        have hm198 := Up.mb u196
        refine WL.rn (Rn.idxArr esa152 rfl rfl (by decide) (by decide)) ?_
        have h199 := Bk.ext hb185 he194
        refine WL.load sc3 rfl ((Bk.at_ (M := fun _ => False) h199 (fun h => h)).cell 1 _ rfl) ?_
        refine WL.bslice1 (R := IntR) (y' := nuktaL[k2].2) Try.underlying29 ti3 rfl (by decide) (by decide) rfl ⟨rfl, by omega⟩ rfl hm198 (fun v200 w201 hS202 he203 => ?_)
        obtain ⟨A204, c205, rfl, hD206⟩ := hS202
        have u207 := Ext.up he203 hm198
        have e208 := Stp.ext e197 he203
        have hm209 := Up.mb u207
        refine WL.buildP (cs := #[.slice (some ⟨g190, 0, none⟩) 2 2, .slice A204 ([nuktaL[k2].2].length) c205]) (.cons rfl (.cons rfl (.nil))) (by kernel_rfl) ?_
        refine WL.bslice1 (R := RuleR) (y' := (⟨([nuktaL[k2].1, 233] : List Int), [nuktaL[k2].2]⟩ : PRule)) Try.underlying49 ti100 rfl (by decide) (by decide) rfl ⟨_, _, rfl, (SlD.sl (hD195.up u207)), (SlD.sl hD206)⟩ rfl hm209 (fun v210 w211 hS212 he213 => ?_)
        obtain ⟨A214, c215, rfl, hD216⟩ := hS212
        have u217 := Ext.up he213 hm209
        have e218 := Stp.ext e208 he213
        have hm219 := Up.mb u217
        have h229 := Own.ext h148 he169 u171 hsub173
        have mem230 : Ms (ob (.slice A149 (indA 128 ++ indB 90 ++ indC k2).length c151)) M170 := (fun k h => hsub173 k (mem153 k h))
        have h231 := Own.step h229 hs186 (Dj.symm dj182) u187 mem230
        have h232 := Own.ext h231 he194 u196 (fun _ h => h)
        have h233 := Own.ext h232 he203 u207 (fun _ h => h)
        have h234 := Own.ext h233 he213 u217 (fun _ h => h)
        refine WL.appendR Try.underlying49 ti100 rfl (by decide) rfl rfl h234 (Sl.atl (SlD.sl hD216)) hm219 (by decide) (by simp only [List.length_append, List.length_cons, List.length_nil, List.length_singleton]; first | omega | (simp [indF]; omega)) (fun A220 c221 w222 M223 hO224 hs225 u226 hsub227 hnew228 => ?_)
        have e235 := Stp.wr e218 hs225 (Wr.ofFr NoM wr154)
        have hm236 := Up.mb u226
        have hs0237 : Ms M M223 := fun k h => hsub227 k (hs0179 k h)
        have hs0238 : Ms Mr2 M223 := fun k h => hsub227 k (hs0180 k h)
        have hs0239 : Ms Mr63 M223 := fun k h => hsub227 k (hs0181 k h)
        have dj240 := Dj.grow (Dj.symm dj182) hnew228 mem176 hm219
        have fr242 := Ge.grow wr154 hnew228 (Stp.size e218)
        refine WL.assign rfl ?_
        refine WL.nil ?_
        refine CW.region ?_
        refine WL.add rfl rfl (by omega) ?_
        refine WL.move rfl ?_
        refine WL.nil ?_
        refine Loop.again _ _ ?_ ?_ ⟨k2 + 1, M223, A220, ((indA 128 ++ indB 90 ++ indC k2) ++ [(⟨([nuktaL[k2].1, 233] : List Int), [nuktaL[k2].2]⟩ : PRule)]).length, c221, rfl, rfl, (Up.trans hU143 (Up.trans u171 (Up.trans u187 (Up.trans u196 (Up.trans u207 (Up.trans u217 u226)))))), e235, hs0239, hs0237, Own.eq hO224 (by rw [indC_succ hk2l, ← List.append_assoc]), (Own.ms hO224), fr242, by omega⟩
        · omega
        · exact .cons (t := 1) rfl (.cons (t := 41) rfl (.cons (t := 42) rfl (.cons (t := 43) rfl (.nil _))))
      · have hkc : k2 = 14 := by omega
        refine CW.exit ?_
        refine CW.seq ?_
        refine CW.seq ?_
        refine CW.region ?_
        refine WL.move rfl ?_
        refine WL.nil ?_
        refine CW.block ?_
        refine CW.loop (fun m σ wr3 => ∃ k : Nat, ∃ Mr243 : MS, ∃ A250 : Option Addr, ∃ n251 : Nat, ∃ c252 : Nat, m = 9 - k ∧ σ = [(1, .slice A250 n251 c252), (58, .int .i64 (k : Int))] ∧ (Up wr2 Mr142 wr3 Mr243) ∧ (Stp w wr3 NoM) ∧ (Ms Mr142 Mr243) ∧ (Ms M Mr243) ∧ (Own RuleR 2 100 wr3 Mr243 0 (.slice A250 n251 c252) (indA 128 ++ indB 90 ++ indC 14 ++ indE k)) ∧ (Ms (ob (.slice A250 n251 c252)) Mr243) ∧ (∀ q_, (ob (.slice A250 n251 c252)) q_ → w.heap.size ≤ q_) ∧ (k ≤ 9)) _ _ (.cons (t := 1) rfl (.cons (t := 58) rfl (.nil _))) ⟨0, Mr142, A149, (indA 128 ++ indB 90 ++ indC k2).length, c151, rfl, rfl, Up.refl hm145, hE144, fun _ h => h, hsb147, Own.eq h148 (by rw [hkc]; simp [indE]), mem153, wr154, by omega⟩ ?_
        rintro m _ wr3 ⟨k, Mr243, A250, n251, c252, rfl, rfl, hU244, hE245, hsp247, hsb248, h249, mem253, wr254, hk3⟩
        have hm246 := Up.mb hU244
        have hs0255 : Ms Mr2 Mr243 := fun k h => hsp247 k (hs0155 k h)
        have hs0256 : Ms Mr63 Mr243 := fun k h => hsp247 k (hsp146 k h)
        obtain rfl := Own.n h249
        have hlen257 := Own.len h249
        have hcl2 : (indC 14).length ≤ 14 := by simp [indC]; omega
        have hel : (indE k).length = k := by simp [indE]
        refine CW.seq ?_
        refine CW.region ?_
        refine WL.lss rfl rfl ?_
        refine WL.nil ?_
        refine CW.seq ?_
        refine CW.condP rfl (fun hc258 => ?_) (fun hc258 => ?_)
        · have hkr := codes_range k (by omega)
          refine CW.skip ?_
          refine CW.seq ?_
          refine CW.block ?_
          refine CW.seq ?_
          refine CW.region ?_
          refine WL.move rfl ?_
          refine WL.assign rfl ?_
          refine WL.nil ?_
          refine CW.region ?_
          refine WL.move rfl ?_
          refine WL.move rfl ?_
          refine WL.call Try.func96 rfl rfl (.cons rfl (.nil)) (code1_spec _ _ hm246 (s_ := (k : Int)) (by omega) (by omega)) (fun _ w259 hr260 => ?_)
          obtain ⟨rfl, he261⟩ := hr260
          have u262 := Ext.up he261 hm246
          have e263 := Stp.ext hE245 he261
          have hm264 := Up.mb u262
          refine WL.bslice Try.underlying29 ti3 rfl (by decide) (by decide) (.cons rfl (.cons rfl (.nil))) rfl (by simp [Value.cells]) (fun g265 w266 hg267 hb268 he269 => ?_)
          have hD270 : SlD IntR 1 w266 Mr243 (some ⟨g265, 0, none⟩) 2 ([239, codesL.getD (k : Int).toNat 0] : List Int) := Bk.ints (xs := [239, codesL.getD (k : Int).toNat 0]) hb268 (by intro x_ hx_; simp only [List.mem_cons, List.not_mem_nil, or_false] at hx_; rcases hx_ with rfl | rfl <;> (simp only [I64]; omega)) (MB.fresh hm264 hg267) (Nat.le_of_ble_eq_true rfl)
          have u271 := Ext.up he269 hm264
          have e272 := Stp.ext e263 he269
          have hm273 := Up.mb u271
          refine WL.move rfl ?_
          refine WL.add rfl rfl (by omega) ?_
          refine WL.bslice1 (R := IntR) (y' := 4096 + (k : Int)) Try.underlying29 ti3 rfl (by decide) (by decide) rfl ⟨rfl, by omega⟩ rfl hm273 (fun v274 w275 hS276 he277 => ?_)
          obtain ⟨A278, c279, rfl, hD280⟩ := hS276
          have u281 := Ext.up he277 hm273
          have e282 := Stp.ext e272 he277
          have hm283 := Up.mb u281
          refine WL.buildP (cs := #[.slice (some ⟨g265, 0, none⟩) 2 2, .slice A278 ([4096 + (k : Int)].length) c279]) (.cons rfl (.cons rfl (.nil))) (by kernel_rfl) ?_
          refine WL.bslice1 (R := RuleR) (y' := (⟨([239, codesL.getD (k : Int).toNat 0] : List Int), [4096 + (k : Int)]⟩ : PRule)) Try.underlying49 ti100 rfl (by decide) (by decide) rfl ⟨_, _, rfl, (SlD.sl (hD270.up u281)), (SlD.sl hD280)⟩ rfl hm283 (fun v284 w285 hS286 he287 => ?_)
          obtain ⟨A288, c289, rfl, hD290⟩ := hS286
          have u291 := Ext.up he287 hm283
          have e292 := Stp.ext e282 he287
          have hm293 := Up.mb u291
          have h303 := Own.ext h249 he261 u262 (fun _ h => h)
          have h304 := Own.ext h303 he269 u271 (fun _ h => h)
          have h305 := Own.ext h304 he277 u281 (fun _ h => h)
          have h306 := Own.ext h305 he287 u291 (fun _ h => h)
          refine WL.appendR Try.underlying49 ti100 rfl (by decide) rfl rfl h306 (Sl.atl (SlD.sl hD290)) hm293 (by decide) (by simp only [List.length_append, List.length_cons, List.length_nil, List.length_singleton]; first | omega | (simp [indF]; omega)) (fun A294 c295 w296 M297 hO298 hs299 u300 hsub301 hnew302 => ?_)
          have e307 := Stp.wr e292 hs299 (Wr.ofFr NoM wr254)
          have hm308 := Up.mb u300
          have hs0309 : Ms M M297 := fun k h => hsub301 k (hsb248 k h)
          have hs0310 : Ms Mr2 M297 := fun k h => hsub301 k (hs0255 k h)
          have hs0311 : Ms Mr63 M297 := fun k h => hsub301 k (hs0256 k h)
          have hs0312 : Ms Mr142 M297 := fun k h => hsub301 k (hsp247 k h)
          have fr314 := Ge.grow wr254 hnew302 (Stp.size e292)
          refine WL.assign rfl ?_
          refine WL.nil ?_
          refine CW.region ?_
          refine WL.add rfl rfl (by omega) ?_
          refine WL.move rfl ?_
          refine WL.nil ?_
          refine Loop.again _ _ ?_ ?_ ⟨k + 1, M297, A294, ((indA 128 ++ indB 90 ++ indC 14 ++ indE k) ++ [(⟨([239, codesL.getD (k : Int).toNat 0] : List Int), [4096 + (k : Int)]⟩ : PRule)]).length, c295, rfl, rfl, (Up.trans hU244 (Up.trans u262 (Up.trans u271 (Up.trans u281 (Up.trans u291 u300))))), e307, hs0312, hs0309, Own.eq hO298 (by rw [indE_succ, ← List.append_assoc]; rfl), (Own.ms hO298), fr314, by omega⟩
          · omega
          · exact .cons (t := 1) rfl (.cons (t := 58) rfl (.nil _))
        · have hke : k = 9 := by omega
          refine CW.exit ?_
          refine CW.seq ?_
          refine CW.region ?_
          refine WL.move rfl ?_
          refine WL.bslice Try.underlying29 ti3 rfl (by decide) (by decide) (.cons rfl (.nil)) rfl (by simp [Value.cells]) (fun g315 w316 hg317 hb318 he319 => ?_)
          have hD320 : SlD IntR 1 w316 Mr243 (some ⟨g315, 0, none⟩) 1 ([217] : List Int) := Bk.ints (xs := [217]) hb318 (by decide) (MB.fresh hm246 hg317) (Nat.le_of_ble_eq_true rfl)
          have u321 := Ext.up he319 hm246
          have e322 := Stp.ext hE245 he319
          have hm323 := Up.mb u321
          refine WL.bslice Try.underlying29 ti3 rfl (by decide) (by decide) (.cons rfl (.nil)) rfl (by simp [Value.cells]) (fun g324 w325 hg326 hb327 he328 => ?_)
          have hD329 : SlD IntR 1 w325 Mr243 (some ⟨g324, 0, none⟩) 1 ([16397] : List Int) := Bk.ints (xs := [16397]) hb327 (by decide) (MB.fresh hm323 hg326) (Nat.le_of_ble_eq_true rfl)
          have u330 := Ext.up he328 hm323
          have e331 := Stp.ext e322 he328
          have hm332 := Up.mb u330
          refine WL.buildP (cs := #[.slice (some ⟨g315, 0, none⟩) 1 1, .slice (some ⟨g324, 0, none⟩) 1 1]) (.cons rfl (.cons rfl (.nil))) (by kernel_rfl) ?_
          refine WL.bslice Try.underlying29 ti3 rfl (by decide) (by decide) (.cons rfl (.nil)) rfl (by simp [Value.cells]) (fun g333 w334 hg335 hb336 he337 => ?_)
          have hD338 : SlD IntR 1 w334 Mr243 (some ⟨g333, 0, none⟩) 1 ([234] : List Int) := Bk.ints (xs := [234]) hb336 (by decide) (MB.fresh hm332 hg335) (Nat.le_of_ble_eq_true rfl)
          have u339 := Ext.up he337 hm332
          have e340 := Stp.ext e331 he337
          have hm341 := Up.mb u339
          refine WL.bslice Try.underlying29 ti3 rfl (by decide) (by decide) (.cons rfl (.nil)) rfl (by simp [Value.cells]) (fun g342 w343 hg344 hb345 he346 => ?_)
          have hD347 : SlD IntR 1 w343 Mr243 (some ⟨g342, 0, none⟩) 1 ([10596] : List Int) := Bk.ints (xs := [10596]) hb345 (by decide) (MB.fresh hm341 hg344) (Nat.le_of_ble_eq_true rfl)
          have u348 := Ext.up he346 hm341
          have e349 := Stp.ext e340 he346
          have hm350 := Up.mb u348
          refine WL.buildP (cs := #[.slice (some ⟨g333, 0, none⟩) 1 1, .slice (some ⟨g342, 0, none⟩) 1 1]) (.cons rfl (.cons rfl (.nil))) (by kernel_rfl) ?_
          refine WL.bslice Try.underlying29 ti3 rfl (by decide) (by decide) (.cons rfl (.cons rfl (.nil))) rfl (by simp [Value.cells]) (fun g351 w352 hg353 hb354 he355 => ?_)
          have hD356 : SlD IntR 1 w352 Mr243 (some ⟨g351, 0, none⟩) 2 ([234, 233] : List Int) := Bk.ints (xs := [234, 233]) hb354 (by decide) (MB.fresh hm350 hg353) (Nat.le_of_ble_eq_true rfl)
          have u357 := Ext.up he355 hm350
          have e358 := Stp.ext e349 he355
          have hm359 := Up.mb u357
          refine WL.bslice Try.underlying29 ti3 rfl (by decide) (by decide) (.cons rfl (.nil)) rfl (by simp [Value.cells]) (fun g360 w361 hg362 hb363 he364 => ?_)
          have hD365 : SlD IntR 1 w361 Mr243 (some ⟨g360, 0, none⟩) 1 ([61] : List Int) := Bk.ints (xs := [61]) hb363 (by decide) (MB.fresh hm359 hg362) (Nat.le_of_ble_eq_true rfl)
          have u366 := Ext.up he364 hm359
          have e367 := Stp.ext e358 he364
          have hm368 := Up.mb u366
          refine WL.buildP (cs := #[.slice (some ⟨g351, 0, none⟩) 2 2, .slice (some ⟨g360, 0, none⟩) 1 1]) (.cons rfl (.cons rfl (.nil))) (by kernel_rfl) ?_
          refine WL.bslice Try.underlying29 ti3 rfl (by decide) (by decide) (.cons rfl (.cons rfl (.nil))) rfl (by simp [Value.cells]) (fun g369 w370 hg371 hb372 he373 => ?_)
          have hD374 : SlD IntR 1 w370 Mr243 (some ⟨g369, 0, none⟩) 2 ([232, 232] : List Int) := Bk.ints (xs := [232, 232]) hb372 (by decide) (MB.fresh hm368 hg371) (Nat.le_of_ble_eq_true rfl)
          have u375 := Ext.up he373 hm368
          have e376 := Stp.ext e367 he373
          have hm377 := Up.mb u375
          refine WL.bslice Try.underlying29 ti3 rfl (by decide) (by decide) (.cons rfl (.cons rfl (.nil))) rfl (by simp [Value.cells]) (fun g378 w379 hg380 hb381 he382 => ?_)
          have hD383 : SlD IntR 1 w379 Mr243 (some ⟨g378, 0, none⟩) 2 ([77, 16396] : List Int) := Bk.ints (xs := [77, 16396]) hb381 (by decide) (MB.fresh hm377 hg380) (Nat.le_of_ble_eq_true rfl)
          have u384 := Ext.up he382 hm377
          have e385 := Stp.ext e376 he382
          have hm386 := Up.mb u384
          refine WL.buildP (cs := #[.slice (some ⟨g369, 0, none⟩) 2 2, .slice (some ⟨g378, 0, none⟩) 2 2]) (.cons rfl (.cons rfl (.nil))) (by kernel_rfl) ?_
          refine WL.bslice Try.underlying29 ti3 rfl (by decide) (by decide) (.cons rfl (.cons rfl (.nil))) rfl (by simp [Value.cells]) (fun g387 w388 hg389 hb390 he391 => ?_)
          have hD392 : SlD IntR 1 w388 Mr243 (some ⟨g387, 0, none⟩) 2 ([232, 233] : List Int) := Bk.ints (xs := [232, 233]) hb390 (by decide) (MB.fresh hm386 hg389) (Nat.le_of_ble_eq_true rfl)
          have u393 := Ext.up he391 hm386
          have e394 := Stp.ext e385 he391
          have hm395 := Up.mb u393
          refine WL.bslice Try.underlying29 ti3 rfl (by decide) (by decide) (.cons rfl (.cons rfl (.nil))) rfl (by simp [Value.cells]) (fun g396 w397 hg398 hb399 he400 => ?_)
          have hD401 : SlD IntR 1 w397 Mr243 (some ⟨g396, 0, none⟩) 2 ([77, 16397] : List Int) := Bk.ints (xs := [77, 16397]) hb399 (by decide) (MB.fresh hm395 hg398) (Nat.le_of_ble_eq_true rfl)
          have u402 := Ext.up he400 hm395
          have e403 := Stp.ext e394 he400
          have hm404 := Up.mb u402
          refine WL.buildP (cs := #[.slice (some ⟨g387, 0, none⟩) 2 2, .slice (some ⟨g396, 0, none⟩) 2 2]) (.cons rfl (.cons rfl (.nil))) (by kernel_rfl) ?_
          refine WL.bslice Try.underlying29 ti3 rfl (by decide) (by decide) (.cons rfl (.cons rfl (.nil))) rfl (by simp [Value.cells]) (fun g405 w406 hg407 hb408 he409 => ?_)
          have hD410 : SlD IntR 1 w406 Mr243 (some ⟨g405, 0, none⟩) 2 ([240, 184] : List Int) := Bk.ints (xs := [240, 184]) hb408 (by decide) (MB.fresh hm404 hg407) (Nat.le_of_ble_eq_true rfl)
          have u411 := Ext.up he409 hm404
          have e412 := Stp.ext e403 he409
          have hm413 := Up.mb u411
          refine WL.bslice Try.underlying29 ti3 rfl (by decide) (by decide) (.cons rfl (.nil)) rfl (by simp [Value.cells]) (fun g414 w415 hg416 hb417 he418 => ?_)
          have hD419 : SlD IntR 1 w415 Mr243 (some ⟨g414, 0, none⟩) 1 ([82] : List Int) := Bk.ints (xs := [82]) hb417 (by decide) (MB.fresh hm413 hg416) (Nat.le_of_ble_eq_true rfl)
          have u420 := Ext.up he418 hm413
          have e421 := Stp.ext e412 he418
          have hm422 := Up.mb u420
          refine WL.buildP (cs := #[.slice (some ⟨g405, 0, none⟩) 2 2, .slice (some ⟨g414, 0, none⟩) 1 1]) (.cons rfl (.cons rfl (.nil))) (by kernel_rfl) ?_
          refine WL.bslice Try.underlying29 ti3 rfl (by decide) (by decide) (.cons rfl (.cons rfl (.nil))) rfl (by simp [Value.cells]) (fun g423 w424 hg425 hb426 he427 => ?_)
          have hD428 : SlD IntR 1 w424 Mr243 (some ⟨g423, 0, none⟩) 2 ([240, 191] : List Int) := Bk.ints (xs := [240, 191]) hb426 (by decide) (MB.fresh hm422 hg425) (Nat.le_of_ble_eq_true rfl)
          have u429 := Ext.up he427 hm422
          have e430 := Stp.ext e421 he427
          have hm431 := Up.mb u429
          refine WL.bslice Try.underlying29 ti3 rfl (by decide) (by decide) (.cons rfl (.nil)) rfl (by simp [Value.cells]) (fun g432 w433 hg434 hb435 he436 => ?_)
          have hD437 : SlD IntR 1 w433 Mr243 (some ⟨g432, 0, none⟩) 1 ([112] : List Int) := Bk.ints (xs := [112]) hb435 (by decide) (MB.fresh hm431 hg434) (Nat.le_of_ble_eq_true rfl)
          have u438 := Ext.up he436 hm431
          have e439 := Stp.ext e430 he436
          have hm440 := Up.mb u438
          refine WL.buildP (cs := #[.slice (some ⟨g423, 0, none⟩) 2 2, .slice (some ⟨g432, 0, none⟩) 1 1]) (.cons rfl (.cons rfl (.nil))) (by kernel_rfl) ?_
          refine WL.bslice Try.underlying49 ti100 rfl (by decide) (by decide) (.cons rfl (.cons rfl (.cons rfl (.cons rfl (.cons rfl (.cons rfl (.cons rfl (.nil)))))))) rfl (by simp [Value.cells]) (fun g441 w442 hg443 hb444 he445 => ?_)
          have u447 := Ext.up he445 hm440
          have e448 := Stp.ext e439 he445
          have hm449 := Up.mb u447
          have hD446 : SlD RuleR 2 w442 Mr243 (some ⟨g441, 0, none⟩) 7 indF := Bk.sl2 (R := RuleR) (sz := 2) (css := [[.slice (some ⟨g315, 0, none⟩) 1 1, .slice (some ⟨g324, 0, none⟩) 1 1], [.slice (some ⟨g333, 0, none⟩) 1 1, .slice (some ⟨g342, 0, none⟩) 1 1], [.slice (some ⟨g351, 0, none⟩) 2 2, .slice (some ⟨g360, 0, none⟩) 1 1], [.slice (some ⟨g369, 0, none⟩) 2 2, .slice (some ⟨g378, 0, none⟩) 2 2], [.slice (some ⟨g387, 0, none⟩) 2 2, .slice (some ⟨g396, 0, none⟩) 2 2], [.slice (some ⟨g405, 0, none⟩) 2 2, .slice (some ⟨g414, 0, none⟩) 1 1], [.slice (some ⟨g423, 0, none⟩) 2 2, .slice (some ⟨g432, 0, none⟩) 1 1]]) (ys := indF) hb444 (.cons ⟨rfl, _, _, rfl, (SlD.sl (hD320.up (Up.trans u330 (Up.trans u339 (Up.trans u348 (Up.trans u357 (Up.trans u366 (Up.trans u375 (Up.trans u384 (Up.trans u393 (Up.trans u402 (Up.trans u411 (Up.trans u420 (Up.trans u429 (Up.trans u438 u447))))))))))))))), (SlD.sl (hD329.up (Up.trans u339 (Up.trans u348 (Up.trans u357 (Up.trans u366 (Up.trans u375 (Up.trans u384 (Up.trans u393 (Up.trans u402 (Up.trans u411 (Up.trans u420 (Up.trans u429 (Up.trans u438 u447))))))))))))))⟩ (.cons ⟨rfl, _, _, rfl, (SlD.sl (hD338.up (Up.trans u348 (Up.trans u357 (Up.trans u366 (Up.trans u375 (Up.trans u384 (Up.trans u393 (Up.trans u402 (Up.trans u411 (Up.trans u420 (Up.trans u429 (Up.trans u438 u447))))))))))))), (SlD.sl (hD347.up (Up.trans u357 (Up.trans u366 (Up.trans u375 (Up.trans u384 (Up.trans u393 (Up.trans u402 (Up.trans u411 (Up.trans u420 (Up.trans u429 (Up.trans u438 u447))))))))))))⟩ (.cons ⟨rfl, _, _, rfl, (SlD.sl (hD356.up (Up.trans u366 (Up.trans u375 (Up.trans u384 (Up.trans u393 (Up.trans u402 (Up.trans u411 (Up.trans u420 (Up.trans u429 (Up.trans u438 u447))))))))))), (SlD.sl (hD365.up (Up.trans u375 (Up.trans u384 (Up.trans u393 (Up.trans u402 (Up.trans u411 (Up.trans u420 (Up.trans u429 (Up.trans u438 u447))))))))))⟩ (.cons ⟨rfl, _, _, rfl, (SlD.sl (hD374.up (Up.trans u384 (Up.trans u393 (Up.trans u402 (Up.trans u411 (Up.trans u420 (Up.trans u429 (Up.trans u438 u447))))))))), (SlD.sl (hD383.up (Up.trans u393 (Up.trans u402 (Up.trans u411 (Up.trans u420 (Up.trans u429 (Up.trans u438 u447))))))))⟩ (.cons ⟨rfl, _, _, rfl, (SlD.sl (hD392.up (Up.trans u402 (Up.trans u411 (Up.trans u420 (Up.trans u429 (Up.trans u438 u447))))))), (SlD.sl (hD401.up (Up.trans u411 (Up.trans u420 (Up.trans u429 (Up.trans u438 u447))))))⟩ (.cons ⟨rfl, _, _, rfl, (SlD.sl (hD410.up (Up.trans u420 (Up.trans u429 (Up.trans u438 u447))))), (SlD.sl (hD419.up (Up.trans u429 (Up.trans u438 u447))))⟩ (.cons ⟨rfl, _, _, rfl, (SlD.sl (hD428.up (Up.trans u438 u447))), (SlD.sl (hD437.up u447))⟩ (.nil)))))))) (MB.fresh hm440 hg443) (by decide)
          have h459 := Own.ext h249 he319 u321 (fun _ h => h)
          have h460 := Own.ext h459 he328 u330 (fun _ h => h)
          have h461 := Own.ext h460 he337 u339 (fun _ h => h)
          have h462 := Own.ext h461 he346 u348 (fun _ h => h)
          have h463 := Own.ext h462 he355 u357 (fun _ h => h)
          have h464 := Own.ext h463 he364 u366 (fun _ h => h)
          have h465 := Own.ext h464 he373 u375 (fun _ h => h)
          have h466 := Own.ext h465 he382 u384 (fun _ h => h)
          have h467 := Own.ext h466 he391 u393 (fun _ h => h)
          have h468 := Own.ext h467 he400 u402 (fun _ h => h)
          have h469 := Own.ext h468 he409 u411 (fun _ h => h)
          have h470 := Own.ext h469 he418 u420 (fun _ h => h)
          have h471 := Own.ext h470 he427 u429 (fun _ h => h)
          have h472 := Own.ext h471 he436 u438 (fun _ h => h)
          have h473 := Own.ext h472 he445 u447 (fun _ h => h)
          refine WL.appendR Try.underlying49 ti100 rfl (by decide) rfl rfl h473 (Sl.atl (SlD.sl hD446)) hm449 (by decide) (by simp only [List.length_append, List.length_cons, List.length_nil, List.length_singleton]; first | omega | (simp [indF]; omega)) (fun A450 c451 w452 M453 hO454 hs455 u456 hsub457 hnew458 => ?_)
          have e474 := Stp.wr e448 hs455 (Wr.ofFr NoM wr254)
          have hm475 := Up.mb u456
          have hs0476 : Ms M M453 := fun k h => hsub457 k (hsb248 k h)
          have hs0477 : Ms Mr2 M453 := fun k h => hsub457 k (hs0255 k h)
          have hs0478 : Ms Mr63 M453 := fun k h => hsub457 k (hs0256 k h)
          have hs0479 : Ms Mr142 M453 := fun k h => hsub457 k (hsp247 k h)
          have fr481 := Ge.grow wr254 hnew458 (Stp.size e448)
          refine WL.assign rfl ?_
          refine WL.nil ?_
          refine CW.ret ?_
          refine Ret.one rfl rfl ?_
          exact ⟨_, ⟨Own.eq hO454 (by rw [hke]; rfl), fr481, (Up.trans hU3 (Up.trans hU64 (Up.trans u139 (Up.trans hU143 (Up.trans hU244 (Up.trans u321 (Up.trans u330 (Up.trans u339 (Up.trans u348 (Up.trans u357 (Up.trans u366 (Up.trans u375 (Up.trans u384 (Up.trans u393 (Up.trans u402 (Up.trans u411 (Up.trans u420 (Up.trans u429 (Up.trans u438 (Up.trans u447 u456)))))))))))))))))))), hs0476, e474⟩⟩
end Go.Proofs.Ytgbajkdomcmblaa
