/- What the functions of package machine come to: walks. -/
import Derived.Test.YtgbajkdomcmblaaMachK
namespace Go.Proofs.Ytgbajkdomcmblaa
open Go Go.RowKit Vc
set_option linter.unusedVariables false
set_option linter.unusedSimpArgs false
private theorem mixed : Try.prog.follows .mixedOrders = true := by kernel_rfl
private theorem fo58_2 : fieldOff Try.prog 58 2 = some 2 := by kernel_rfl
private theorem fo58_3 : fieldOff Try.prog 58 3 = some 3 := by kernel_rfl
private theorem fo116_1 : fieldOff Try.prog 116 1 = some 1 := by kernel_rfl
private theorem fo116_2 : fieldOff Try.prog 116 2 = some 2 := by kernel_rfl
private theorem es55 : elemSize Try.prog 55 = some 4 := by kernel_rfl
private theorem sc29 : scalar Try.prog 29 = true := by kernel_rfl
private theorem sc45 : scalar Try.prog 45 = true := by kernel_rfl
private theorem sc46 : scalar Try.prog 46 = true := by kernel_rfl
private theorem ag58 : aggSize Try.prog 58 = some 4 := by kernel_rfl
private theorem ti29 : tinfo Try.prog 29 = some (some (.slice none 0 0), 1, 24) := by kernel_rfl
private theorem ti58 : tinfo Try.prog 58 = some (some (.agg #[.int .i64 0, .int .i64 0, .slice none 0 0, .int .i64 0]), 4, 48) := by kernel_rfl
theorem join_i64 (rs : List PRule) (ah : List Int) {x : PTok} (h : I64 x.at_ ∧ I64 x.len ∧ I64 x.err) : I64 (joinTok rs ah x).at_ ∧ I64 (joinTok rs ah x).len ∧ I64 (joinTok rs ah x).err := by
  unfold joinTok
  split
  · exact ⟨h.1, h.2.1, by show I64 3; decide⟩
  · exact h

theorem encJoin_spec (w : World) (M : MS) (hm : MB w M) {g gm tb : Nat} {Aa : Option Addr} {ca : Nat} {ahead : List Int} (hb : Bk w g 116 [.pointer (some ⟨gm, 0, none⟩), .pointer (some ⟨tb, 0, none⟩), .slice Aa ahead.length ca]) (hMg : M g) (hah : SlD IntR 1 w M Aa ca ahead) {rs : List PRule} (hT : TableR w M tb rs) {A : Option Addr} {c : Nat} {ts : List PTok} (hO : Own TokR 4 58 w M 0 (.slice A ts.length c) ts) (hdj : Dj (ob (.slice A ts.length c)) (vb g)) (hl : ∀ x ∈ ts, x.out.length ≤ 1000) (hla : ahead.length ≤ 1000) :
    Fc Try.prog 72 #[.pointer (some ⟨g, 0, none⟩), .slice A ts.length c] w fun v w' => v = .slice A ts.length c ∧ ∃ M' Aa' ca', Own TokR 4 58 w' M' 0 (.slice A ts.length c) (joinP rs ahead ts).1 ∧ Bk w' g 116 [.pointer (some ⟨gm, 0, none⟩), .pointer (some ⟨tb, 0, none⟩), .slice Aa' (joinP rs ahead ts).2.length ca'] ∧ SlD IntR 1 w' M' Aa' ca' (joinP rs ahead ts).2 ∧ Up w M w' M' ∧ Ms M M' ∧ Stp w w' (fun k => vb g k ∨ ob (.slice A ts.length c) k) := by
  have e0 := Stp.refl w ((fun k => vb g k ∨ ob (.slice A ts.length c) k) : MS)
  have hs00 : Ms M M := fun _ h => h
  obtain ⟨gr, gw, htp, hTr, hTw⟩ := hT
  have hmg : Ms (vb g) M := Ms.one hMg
  have hlim := Own.len hO
  have hwe : Wr w.heap.size (fun k => vb g k ∨ ob (.slice A ts.length c) k) (vb g) := fun q_ hq_ => .inl (.inl hq_)
  have hwt : Wr w.heap.size (fun k => vb g k ∨ ob (.slice A ts.length c) k) (ob (.slice A ts.length c)) := fun q_ hq_ => .inl (.inr hq_)
  refine Fc.enter (n := 40) [(0, .pointer (some ⟨g, 0, none⟩)), (1, .slice A ts.length c)] Try.func72 rfl rfl (Nat.le_of_ble_eq_true rfl) (.cons rfl (.cons rfl (.nil _))) ?_
  refine CW.seq ?_
  refine CW.region ?_
  refine WL.assign rfl ?_
  refine WL.nil ?_
  refine CW.seq ?_
  refine CW.seq ?_
  refine CW.region ?_
  refine WL.move rfl ?_
  refine WL.len Try.underlying55 rfl ?_
  refine WL.move rfl ?_
  refine WL.nil ?_
  refine CW.block ?_
  refine CW.loop (fun m σ wr0 => ∃ k : Nat, ∃ pre : List PTok, ∃ ah : List Int, ∃ Aa2 : Option Addr, ∃ ca2 : Nat, ∃ Mr1 : MS, m = ts.length - k ∧ σ = [(0, .pointer (some ⟨g, 0, none⟩)), (1, .slice A ts.length c), (7, .slice A ts.length c), (8, .int .i64 (ts.length : Int)), (9, .int .i64 (k : Int))] ∧ (Up w M wr0 Mr1) ∧ (Stp w wr0 (fun k => vb g k ∨ ob (.slice A ts.length c) k)) ∧ (Ms M Mr1) ∧ (Ms M Mr1) ∧ (Bk wr0 g 116 [.pointer (some ⟨gm, 0, none⟩), .pointer (some ⟨tb, 0, none⟩), .slice Aa2 ah.length ca2]) ∧ (Own TokR 4 58 wr0 Mr1 0 (.slice A ts.length c) (pre ++ ts.drop k)) ∧ (k ≤ ts.length) ∧ (joinP rs ahead (ts.take k) = (pre, ah)) ∧ (ah.length ≤ 1000) ∧ (SlD IntR 1 wr0 Mr1 Aa2 ca2 ah)) _ _ (.cons (t := 0) rfl (.cons (t := 1) rfl (.cons (t := 7) rfl (.cons (t := 8) rfl (.cons (t := 9) rfl (.nil _)))))) ⟨0, [], ahead, Aa, ca, M, rfl, rfl, Up.refl hm, e0, fun _ h => h, hs00, hb, hO, by omega, rfl, hla, hah⟩ ?_
  rintro m _ wr0 ⟨k, pre, ah, Aa2, ca2, Mr1, rfl, rfl, hU2, hE3, hsp5, hsb6, h7, h8, hk, hj, hla2, hah2⟩
  have hm4 := Up.mb hU2
  have mem9 : Ms (vb g) Mr1 := (fun k h => hsp5 k (hmg k h))
  have mem10 : Ms (ob (.slice A ts.length c)) Mr1 := (fun k h => hsp5 k ((Own.ms hO) k h))
  have hlen11 := Own.len h8
  have hpl : pre.length = k := by have := join_len rs (ts.take k) ahead; rw [hj] at this; simp at this; omega
  refine CW.seq ?_
  refine CW.region ?_
  refine WL.lss rfl rfl ?_
  refine WL.nil ?_
  refine CW.seq ?_
  refine CW.condP rfl (fun hc12 => ?_) (fun hc12 => ?_)
  · have hkl : k < ts.length := by omega
    have hxo := hl _ (List.getElem_mem hkl)
    refine CW.skip ?_
    refine CW.seq ?_
    refine CW.block ?_
    refine CW.seq ?_
    refine CW.region ?_
    refine WL.move rfl ?_
    have hlt13 : k < (pre ++ ts.drop k).length := by first | omega | (simp only [List.length_append, List.length_set, List.length_drop]; omega)
    obtain ⟨ad14, cs15, hA16, hs17, hat18, hR19⟩ := Own.get h8 hlt13
    rw [show (pre ++ ts.drop k)[k] = ts[k] from get_mid hpl hkl _] at hR19
    obtain ⟨_, hx22, ⟨A20, c21, rfl, hD23⟩, hi24, hi25, hi26⟩ := hR19
    rw [hx22] at hat18
    have hl27 := SlD.lim hD23
    simp only [I64] at hi24 hi25 hi26
    refine WL.idx es55 rfl rfl hA16 (by omega) (by omega) ?_
    refine WL.loadAgg (M := fun _ => False) (cs := [.int .i64 (ts[k].at_), .int .i64 (ts[k].len), .slice A20 (ts[k].out.length) c21, .int .i64 (ts[k].err)]) ag58 rfl hat18 ?_
    refine WL.alloc (cs := [.int .i64 0, .int .i64 0, .slice none 0 0, .int .i64 0]) ti58 rfl (fun g28 w29 hg30 hb31 he32 => ?_)
    obtain ⟨M33, u34, mem35, hsub36, hinv37⟩ := Ext.addVar he32 hm4 hg30 hb31
    have ge38 : ∀ q_, vb g28 q_ → wr0.heap.size ≤ q_ := fun q_ hq_ => by rw [hq_]; exact hg30
    have mem39 := Ms.one mem35
    have e40 := Stp.ext hE3 he32
    have hm41 := Up.mb u34
    have hs042 : Ms M M33 := fun k h => hsub36 k (hsp5 k h)
    have dj43 := Dj.fresh (T := (vb g)) ge38 mem9 hm4
    have dj44 := Dj.fresh (T := (ob (.slice A ts.length c))) ge38 mem10 hm4
    have fr45 := Ge.le ge38 (Stp.size hE3)
    refine WL.assign rfl ?_
    refine WL.storeAll (vs := [.int .i64 (ts[k].at_), .int .i64 (ts[k].len), .slice A20 (ts[k].out.length) c21, .int .i64 (ts[k].err)]) (by rw [ti58]; rfl) rfl rfl (by simp [Value.oneCell']) hb31 rfl (fun w46 hb47 hs48 => ?_)
    have u49 := Stp.upM hs48 hm41 mem39
    have e50 := Stp.wr e40 hs48 (Wr.ofFr (fun k => vb g k ∨ ob (.slice A ts.length c) k) fr45)
    have hm51 := Up.mb u49
    refine WL.nil ?_
    refine CW.seq ?_
    refine CW.drawn [13] (fun w1 w' => Ext w1 w') mixed (fun w52 ed53 hh54 => ?_)
    have u56 := Ext.up ed53 hm51
    have e57 := Stp.ext e50 ed53
    have hm58 := Up.mb u56
    have hcl55 := Stp.refl w52 (fun _ => False)
    refine DW.rF 0 rfl (by kernel_rfl) (fun _ _ _ h => h) (fun w' => Rn.move rfl) ?_
    refine DW.rF 1 rfl (by kernel_rfl) (fun _ _ _ h => h) (fun w' => Rn.move rfl) ?_
    refine DW.rF 2 rfl (by kernel_rfl) (fun _ _ _ h => h) (fun w' => Rn.move rfl) ?_
    refine DW.rF 3 rfl (by kernel_rfl) (fun _ _ _ h => h) (fun w' => Rn.nilCheck rfl) ?_
    refine DW.rF 4 rfl (by kernel_rfl) (fun _ _ _ h => h) (fun w' => Rn.fieldAddr fo116_1 rfl) ?_
    have h59 := Bk.ext h7 he32
    have h60 := Bk.stp h59 hs48 ((Dj.symm dj43) _ rfl)
    have h61 := Bk.ext h60 ed53
    refine DW.rT 5 rfl (by kernel_rfl) (fun _ _ _ h => h) (fun w' hC => Rn.load sc45 rfl ((Bk.at_ (M := fun _ => False) (Bk.ext h61 hC) (fun h => h)).cell 1 _ rfl)) ?_
    refine DW.rF 6 rfl (by kernel_rfl) (fun _ _ _ h => h) (fun w' => Rn.move rfl) ?_
    refine DW.rF 7 rfl (by kernel_rfl) (fun _ _ _ h => h) (fun w' => Rn.nilCheck rfl) ?_
    refine DW.rF 8 rfl (by kernel_rfl) (fun _ _ _ h => h) (fun w' => Rn.fieldAddr fo116_2 rfl) ?_
    refine DW.rT 9 rfl (by kernel_rfl) (fun _ _ _ h => h) (fun w' hC => Rn.load sc29 rfl ((Bk.at_ (M := fun _ => False) (Bk.ext h61 hC) (fun h => h)).cell 2 _ rfl)) ?_
    have h62 := Bk.ext hb47 ed53
    refine DW.rT 10 rfl (by kernel_rfl) (fun _ _ _ h => h) (fun w' hC => Rn.loadAgg (cs := [.int .i64 (ts[k].at_), .int .i64 (ts[k].len), .slice A20 (ts[k].out.length) c21, .int .i64 (ts[k].err)]) ag58 rfl (Bk.at_ (M := fun _ => False) (Bk.ext h62 hC) (fun h => h))) ?_
    refine DW.only 11 (by kernel_rfl) rfl (fun _ => hcl55) ?_
    refine WL.call Try.func92 rfl rfl (.cons rfl (.cons rfl (.cons rfl (.nil)))) (join_spec _ _ hm58 (htp.up (Up.trans hU2 (Up.trans u34 (Up.trans u49 u56)))) (hTr.up (Up.trans hU2 (Up.trans u34 (Up.trans u49 u56)))) (hah2.up (Up.trans u34 (Up.trans u49 u56))) (x := ts[k]) (hD23.up (Up.trans u34 (Up.trans u49 u56))) hla2 hxo) (fun _ w66 hr67 => ?_)
    obtain ⟨⟨A63, c64, rfl, hD65⟩, he68⟩ := hr67
    have u69 := Ext.up he68 hm58
    have e70 := Stp.ext e57 he68
    have hm71 := Up.mb u69
    have hcl72 := Stp.ext hcl55 he68
    refine WL.nil ?_
    have hlt73 : k < (pre ++ ts.drop k).length := by first | omega | (simp only [List.length_append, List.length_set, List.length_drop]; omega)
    have h80 := Own.ext h8 he32 u34 hsub36
    have mem81 : Ms (ob (.slice A ts.length c)) M33 := (fun k h => hsub36 k (mem10 k h))
    have h82 := Own.step h80 hs48 (Dj.symm dj44) u49 mem81
    have h83 := Own.ext h82 ed53 u56 (fun _ h => h)
    obtain ⟨ad74, cs75, hA76, hs77, hat78, hR79⟩ := Own.get h83 hlt73
    rw [show (pre ++ ts.drop k)[k] = ts[k] from get_mid hpl hkl _] at hR79
    obtain ⟨_, hx86, ⟨A84, c85, rfl, hD87⟩, hi88, hi89, hi90⟩ := hR79
    rw [hx86] at hat78
    have hl91 := SlD.lim hD87
    simp only [I64] at hi88 hi89 hi90
    refine DW.rF 12 rfl (by kernel_rfl) (fun _ _ _ h => h) (fun w' => Rn.idx es55 rfl rfl hA76 (by omega) (by omega)) ?_
    refine DW.only 13 (by kernel_rfl) rfl (fun _ => hcl72) ?_
    have h96 := Own.ext h83 he68 u69 (fun _ h => h)
    have hjk := join_i64 rs ah (x := ts[k]) ⟨by simp only [I64]; omega, by simp only [I64]; omega, by simp only [I64]; omega⟩
    refine WL.storeOwnAll (us := [.int .i64 ((joinTok rs ah ts[k]).at_), .int .i64 ((joinTok rs ah ts[k]).len), .slice A63 ((joinTok rs ah ts[k]).out.length) c64, .int .i64 ((joinTok rs ah ts[k]).err)]) (x' := joinTok rs ah ts[k]) h96 hA76 hm71 hlt73 rfl (by decide) (by rw [ti58]; rfl) rfl rfl (by simp [Value.oneCell']) ⟨_, rfl, SlD.sl hD65, hjk⟩ (fun w92 hO93 hs94 u95 => ?_)
    have e97 := Stp.wr e70 hs94 hwt
    have hm98 := Up.mb u95
    refine WL.nil ?_
    refine DW.done (by kernel_rfl) (notFresh (by kernel_rfl)) ?_
    refine CW.seq ?_
    refine CW.region ?_
    refine WL.move rfl ?_
    refine WL.move rfl ?_
    have hlt99 : k < ((pre ++ ts.drop k).set k (joinTok rs ah ts[k])).length := by first | omega | (simp only [List.length_append, List.length_set, List.length_drop]; omega)
    obtain ⟨ad100, cs101, hA102, hs103, hat104, hR105⟩ := Own.get hO93 hlt99
    rw [show ((pre ++ ts.drop k).set k (joinTok rs ah ts[k]))[k] = joinTok rs ah ts[k] from by simp] at hR105
    obtain ⟨_, hx108, ⟨A106, c107, rfl, hD109⟩, hi110, hi111, hi112⟩ := hR105
    rw [hx108] at hat104
    have hl113 := SlD.lim hD109
    simp only [I64] at hi110 hi111 hi112
    refine WL.idx es55 rfl rfl hA102 (by omega) (by omega) ?_
    refine WL.fieldAddr fo58_3 rfl ?_
    refine WL.load sc46 rfl (At.cell hat104 3 _ rfl) ?_
    refine WL.eql rfl rfl ?_
    refine WL.nil ?_
    refine CW.condP rfl (fun hc114 => ?_) (fun hc114 => ?_)
    · refine CW.region ?_
      refine WL.move rfl ?_
      refine WL.fieldAddr fo58_2 rfl ?_
      have h115 := Bk.ext h62 he68
      have h116 := Bk.stp h115 hs94 (dj44 _ rfl)
      refine WL.load sc29 rfl ((Bk.at_ (M := fun _ => False) h116 (fun h => h)).cell 2 _ rfl) ?_
      refine WL.nilCheck rfl ?_
      refine WL.fieldAddr fo116_2 rfl ?_
      have h121 := Bk.ext h61 he68
      have h122 := Bk.stp h121 hs94 ((Dj.symm hdj) _ rfl)
      have mem123 : Ms (vb g) M33 := (fun k h => hsub36 k (mem9 k h))
      refine WL.store (o := 2) (by rw [ti29]; rfl) rfl rfl rfl h122 (Nat.le_of_ble_eq_true rfl) (fun w117 hb124 hs119 => ?_)
      have hb118 : Bk w117 g 116 [.pointer (some ⟨gm, 0, none⟩), .pointer (some ⟨tb, 0, none⟩), .slice A20 (ts[k].out.length) c21] := hb124
      have u120 := Stp.upM hs119 hm98 mem123
      have e125 := Stp.wr e97 hs119 hwe
      have hm126 := Up.mb u120
      refine WL.nil ?_
      refine CW.region ?_
      refine WL.add rfl rfl (by omega) ?_
      refine WL.move rfl ?_
      refine WL.nil ?_
      have hja : joinAhead rs ah ts[k] = ts[k].out := by unfold joinAhead; exact if_pos hc114
      have hpl2 : (pre ++ [joinTok rs ah ts[k]]).length = k + 1 := by simp; omega
      have h127 := Own.step hO93 hs119 hdj u120 mem81
      refine Loop.again _ _ ?_ ?_ ⟨k + 1, pre ++ [joinTok rs ah ts[k]], ts[k].out, A20, c21, M33, rfl, rfl, (Up.trans hU2 (Up.trans u34 (Up.trans u49 (Up.trans u56 (Up.trans u69 (Up.trans u95 u120)))))), e125, hs042, hs042, hb118, by rw [← set_mid hpl hkl]; exact h127, by omega, by rw [join_take_succ rs ahead hkl, hj, hja], by exact hl _ (List.getElem_mem hkl), (hD23.up (Up.trans u34 (Up.trans u49 (Up.trans u56 (Up.trans u69 (Up.trans u95 u120))))))⟩
      · omega
      · exact .cons (t := 0) rfl (.cons (t := 1) rfl (.cons (t := 7) rfl (.cons (t := 8) rfl (.cons (t := 9) rfl (.nil _)))))
    · refine CW.skip ?_
      refine CW.region ?_
      refine WL.add rfl rfl (by omega) ?_
      refine WL.move rfl ?_
      refine WL.nil ?_
      have hja : joinAhead rs ah ts[k] = ah := by unfold joinAhead; exact if_neg hc114
      have hpl2 : (pre ++ [joinTok rs ah ts[k]]).length = k + 1 := by simp; omega
      have h128 := Bk.ext h61 he68
      have h129 := Bk.stp h128 hs94 ((Dj.symm hdj) _ rfl)
      refine Loop.again _ _ ?_ ?_ ⟨k + 1, pre ++ [joinTok rs ah ts[k]], ah, Aa2, ca2, M33, rfl, rfl, (Up.trans hU2 (Up.trans u34 (Up.trans u49 (Up.trans u56 (Up.trans u69 u95))))), e97, hs042, hs042, h129, by rw [← set_mid hpl hkl]; exact hO93, by omega, by rw [join_take_succ rs ahead hkl, hj, hja], by exact hla2, (hah2.up (Up.trans u34 (Up.trans u49 (Up.trans u56 (Up.trans u69 u95)))))⟩
      · omega
      · exact .cons (t := 0) rfl (.cons (t := 1) rfl (.cons (t := 7) rfl (.cons (t := 8) rfl (.cons (t := 9) rfl (.nil _)))))
  · have hke : k = ts.length := by omega
    refine CW.exit ?_
    refine CW.seq ?_
    refine CW.region ?_
    refine WL.move rfl ?_
    refine WL.assign rfl ?_
    refine WL.nil ?_
    refine CW.ret ?_
    refine Ret.one rfl rfl ?_
    have hfin : joinP rs ahead ts = (pre, ah) := by rw [← hj, hke, List.take_length]
    have hxe : pre ++ ts.drop k = pre := by rw [hke, List.drop_length, List.append_nil]
    rw [hfin]
    exact ⟨rfl, _, Aa2, ca2, hxe ▸ h8, h7, hah2, hU2, hsp5, hE3⟩
end Go.Proofs.Ytgbajkdomcmblaa
