/- What the functions of package table come to: walks. -/
import Derived.Test.YtgbajkdomcmblaaMachH
namespace Go.Proofs.Ytgbajkdomcmblaa
open Go Go.RowKit Vc
set_option linter.unusedVariables false
set_option linter.unusedSimpArgs false
private theorem mixed : Try.prog.follows .mixedOrders = true := by kernel_rfl
private theorem fo58_0 : fieldOff Try.prog 58 0 = some 0 := by kernel_rfl
private theorem fo58_1 : fieldOff Try.prog 58 1 = some 1 := by kernel_rfl
private theorem fo58_2 : fieldOff Try.prog 58 2 = some 2 := by kernel_rfl
private theorem fo58_3 : fieldOff Try.prog 58 3 = some 3 := by kernel_rfl
private theorem fo108_0 : fieldOff Try.prog 108 0 = some 0 := by kernel_rfl
private theorem fo108_1 : fieldOff Try.prog 108 1 = some 1 := by kernel_rfl
private theorem fo108_2 : fieldOff Try.prog 108 2 = some 2 := by kernel_rfl
private theorem fo108_3 : fieldOff Try.prog 108 3 = some 3 := by kernel_rfl
private theorem sc3 : scalar Try.prog 3 = true := by kernel_rfl
private theorem sc29 : scalar Try.prog 29 = true := by kernel_rfl
private theorem sc46 : scalar Try.prog 46 = true := by kernel_rfl
private theorem sc101 : scalar Try.prog 101 = true := by kernel_rfl
private theorem ag58 : aggSize Try.prog 58 = some 4 := by kernel_rfl
private theorem ti3 : tinfo Try.prog 3 = some (some (.int .i64 0), 1, 8) := by kernel_rfl
private theorem ti58 : tinfo Try.prog 58 = some (some (.agg #[.int .i64 0, .int .i64 0, .slice none 0 0, .int .i64 0]), 4, 48) := by kernel_rfl
private theorem ti101 : tinfo Try.prog 101 = some (some (.pointer none), 1, 8) := by kernel_rfl
theorem Clone_new (w : World) (M : MS) (hm : MB w M) {Ap1 : Option Addr} {cp1 : Nat} {xs : List Int} (h1 : SlD IntR 1 w M Ap1 cp1 xs) (hl : xs.length ≤ 1000000) :
    Fc Try.prog 88 #[.slice Ap1 xs.length cp1] w fun v w' => ∃ M', NewR IntR 1 3 w M w' M' v xs := by
  have e0 := Stp.refl w (NoM : MS)
  have hs00 : Ms M M := fun _ h => h
  have hlim := h1.lim
  have hcap := h1.cap
  refine Fc.enter (n := 8) [(0, .slice Ap1 xs.length cp1)] Try.func88 rfl rfl (Nat.le_of_ble_eq_true rfl) (.cons rfl (.nil _)) ?_
  refine CW.seq ?_
  refine CW.region ?_
  refine WL.assign rfl ?_
  refine WL.nil ?_
  refine CW.seq ?_
  refine CW.seq ?_
  refine CW.region ?_
  refine WL.move rfl ?_
  refine WL.rn (Rn.snil Try.underlying29 rfl) ?_
  refine WL.nil ?_
  refine CW.condB rfl (fun hc1 => ?_) (fun hc1 => ?_)
  · refine CW.seq ?_
    refine CW.region ?_
    refine WL.assign rfl ?_
    refine WL.nil ?_
    refine CW.ret ?_
    refine Ret.one rfl rfl ?_
    have hx0 : xs = [] := by
      have h2 : Ap1 = none := by simpa using hc1
      have h3 := h1.nil h2
      exact List.eq_nil_of_length_eq_zero (by omega)
    subst hx0
    exact ⟨M, ⟨Own.nil, (fun k h => by have h : (none : Option Nat) = some k := h; cases h), Up.refl hm, fun _ h => h, e0⟩⟩
  · refine CW.skip ?_
    refine CW.seq ?_
    refine CW.region ?_
    refine WL.bslice Try.underlying29 ti3 rfl (by decide) (by decide) .nil rfl (by simp) (fun g2 w3 hg4 hb5 he6 => ?_)
    obtain ⟨M8, u9, mem10, hsub11, hinv12⟩ := Ext.addVar he6 hm hg4 hb5
    have ge13 : ∀ q_, (ob (.slice (some ⟨g2, 0, none⟩) 0 0)) q_ → w.heap.size ≤ q_ := fun q_ hq_ => by have hq_ : some g2 = some q_ := hq_; cases hq_; exact hg4
    have e14 := Stp.ext e0 he6
    have hm15 := Up.mb u9
    have hs016 : Ms M M8 := fun k h => hsub11 k (hs00 k h)
    have hO7 : Own IntR 1 3 w3 M8 0 (.slice (some ⟨g2, 0, none⟩) 0 0) [] := Bk.own (css := []) (ys := []) hb5 .nil (Nat.zero_le _) mem10 (by decide)
    have wr17 := Wr.fresh NoM ge13 (Stp.size e0)
    refine WL.move rfl ?_
    refine WL.appendR Try.underlying29 ti3 rfl (by decide) rfl rfl hO7 (Sl.atl (SlD.sl (h1.up u9))) hm15 (by decide) (by first | omega | (simp; omega)) (fun A18 c19 w20 M21 hO22 hs23 u24 hsub25 hnew26 => ?_)
    have e27 := Stp.wr e14 hs23 wr17
    have hm28 := Up.mb u24
    have hs029 : Ms M M21 := fun k h => hsub25 k (hs016 k h)
    have wr30 := Wr.grow wr17 hnew26 (Stp.size e14)
    have ge31 := Ge.grow ge13 hnew26 (Stp.size (Up.stp u9))
    refine WL.assign rfl ?_
    refine WL.nil ?_
    refine CW.ret ?_
    refine Ret.one rfl rfl ?_
    exact ⟨_, ⟨hO22, (Wr.fr wr30), (Up.trans u9 u24), hs029, e27⟩⟩

theorem tableOf_spec (w : World) (M : MS) (hm : MB w M) {Ap1 : Option Addr} {cp1 : Nat} {rs : List PRule} (h1 : SlD RuleR 2 w M Ap1 cp1 rs) (hg : GoodR rs) (hcl : closedP rs = true) :
    Fc Try.prog 25 #[.slice Ap1 rs.length cp1] w fun v w' => (∃ g, v = .tuple #[.pointer (some ⟨g, 0, none⟩), .int .i64 0] ∧ TableR w' M g rs) ∧ Ext w w' := by
  have e0 := Stp.refl w (NoM : MS)
  have hs00 : Ms M M := fun _ h => h
  have hlim := h1.lim
  refine Fc.enter (n := 38) [(0, .slice Ap1 rs.length cp1)] Try.func25 rfl rfl (Nat.le_of_ble_eq_true rfl) (.cons rfl (.nil _)) ?_
  refine CW.seq ?_
  refine CW.region ?_
  refine WL.assign rfl ?_
  refine WL.assign rfl ?_
  refine WL.nil ?_
  refine CW.seq ?_
  refine CW.region ?_
  refine WL.move rfl ?_
  refine WL.call Try.func62 rfl rfl (.cons rfl (.nil)) (trieOf_spec _ _ hm h1 hg) (fun _ w1 hr2 => ?_)
  obtain ⟨⟨gr, rfl, hTr⟩, he3⟩ := hr2
  have u4 := Ext.up he3 hm
  have e5 := Stp.ext e0 he3
  have hm6 := Up.mb u4
  refine WL.move rfl ?_
  refine WL.extract rfl rfl ?_
  refine WL.extract rfl rfl ?_
  refine WL.assign rfl ?_
  refine WL.assign rfl ?_
  refine WL.nil ?_
  refine CW.seq ?_
  refine CW.seq ?_
  refine CW.region ?_
  refine WL.move rfl ?_
  refine WL.neq rfl rfl ?_
  refine WL.nil ?_
  have hev7 : ¬ ((0 : Int) ≠ 0) := by decide
  refine CW.condP rfl (fun hn => absurd hn hev7) (fun _ => ?_)
  refine CW.skip ?_
  refine CW.seq ?_
  refine CW.seq ?_
  refine CW.region ?_
  refine WL.move rfl ?_
  refine WL.call Try.func63 rfl rfl (.cons rfl (.nil)) (closed_spec _ _ hm6 (h1.up u4) hg.ne) (fun _ w8 hr9 => ?_)
  obtain ⟨rfl, he10⟩ := hr9
  have u11 := Ext.up he10 hm6
  have e12 := Stp.ext e5 he10
  have hm13 := Up.mb u11
  refine WL.not_ rfl ?_
  refine WL.nil ?_
  have hev14 : (!(closedP rs)) = false := by rw [hcl]; rfl
  refine CW.condF (congrArg (fun b => some (Value.bool b)) hev14) ?_
  refine CW.skip ?_
  refine CW.seq ?_
  refine CW.region ?_
  refine WL.move rfl ?_
  refine WL.call Try.func64 rfl rfl (.cons rfl (.nil)) (Turn_spec _ _ hm13 (h1.up (Up.trans u4 u11)) hg.len (fun r hr => by have h2 := hg.mem hr; omega)) (fun _ w18 hr19 => ?_)
  obtain ⟨⟨A15, c16, rfl, hD17⟩, he20⟩ := hr19
  have u21 := Ext.up he20 hm13
  have e22 := Stp.ext e12 he20
  have hm23 := Up.mb u21
  refine WL.assign rfl ?_
  refine WL.nil ?_
  refine CW.seq ?_
  refine CW.region ?_
  refine WL.move rfl ?_
  refine WL.call Try.func65 rfl rfl (.cons rfl (.nil)) (Longest_spec _ _ hm23 (h1.up (Up.trans u4 (Up.trans u11 u21)))) (fun _ w24 hr25 => ?_)
  obtain ⟨rfl, he26⟩ := hr25
  have u27 := Ext.up he26 hm23
  have e28 := Stp.ext e22 he26
  have hm29 := Up.mb u27
  refine WL.move rfl ?_
  refine WL.call Try.func65 rfl rfl (.cons rfl (.nil)) (Longest_spec _ _ hm29 (hD17.up u27)) (fun _ w30 hr31 => ?_)
  obtain ⟨rfl, he32⟩ := hr31
  have u33 := Ext.up he32 hm29
  have e34 := Stp.ext e28 he32
  have hm35 := Up.mb u33
  refine WL.move rfl ?_
  refine WL.buildP (cs := #[.int .i64 (longP rs), .int .i64 (longP (turnP rs)), .pointer (some ⟨gr, 0, none⟩), .pointer none]) (.cons rfl (.cons rfl (.cons rfl (.nil)))) (by kernel_rfl) ?_
  refine WL.box (cs := [.int .i64 (longP rs), .int .i64 (longP (turnP rs)), .pointer (some ⟨gr, 0, none⟩), .pointer none]) rfl rfl (fun g36 w37 hg38 hb39 he40 => ?_)
  obtain ⟨M41, u42, mem43, hsub44, hinv45⟩ := Ext.addVar he40 hm35 hg38 hb39
  have ge46 : ∀ q_, vb g36 q_ → w30.heap.size ≤ q_ := fun q_ hq_ => by rw [hq_]; exact hg38
  have mem47 := Ms.one mem43
  have e48 := Stp.ext e34 he40
  have hm49 := Up.mb u42
  have hs050 : Ms M M41 := fun k h => hsub44 k (hs00 k h)
  have wr51 := Wr.fresh NoM ge46 (Stp.size e34)
  refine WL.assign rfl ?_
  refine WL.nil ?_
  refine CW.seq ?_
  refine CW.region ?_
  refine WL.move rfl ?_
  refine WL.move rfl ?_
  refine WL.call Try.func62 rfl rfl (.cons rfl (.nil)) (trieOf_spec _ _ hm49 (hD17.up (Up.trans u27 (Up.trans u33 u42))) hg.turn) (fun _ w52 hr53 => ?_)
  obtain ⟨⟨gw, rfl, hTw⟩, he54⟩ := hr53
  have u55 := Ext.up he54 hm49
  have e56 := Stp.ext e48 he54
  have hm57 := Up.mb u55
  refine WL.move rfl ?_
  refine WL.extract rfl rfl ?_
  refine WL.extract rfl rfl ?_
  refine WL.nilCheck rfl ?_
  refine WL.fieldAddr fo108_3 rfl ?_
  have h62 := Bk.ext hb39 he54
  refine WL.store (o := 3) (by rw [ti101]; rfl) rfl rfl rfl h62 (Nat.le_of_ble_eq_true rfl) (fun w58 hb63 hs60 => ?_)
  have hb59 : Bk w58 g36 108 [.int .i64 (longP rs), .int .i64 (longP (turnP rs)), .pointer (some ⟨gr, 0, none⟩), .pointer (some ⟨gw, 0, none⟩)] := hb63
  have u61 := Stp.upM hs60 hm57 mem47
  have e64 := Stp.wr e56 hs60 wr51
  have hm65 := Up.mb u61
  refine WL.assign rfl ?_
  refine WL.nil ?_
  refine CW.seq ?_
  refine CW.region ?_
  refine WL.move rfl ?_
  refine WL.move rfl ?_
  refine WL.assign rfl ?_
  refine WL.assign rfl ?_
  refine WL.nil ?_
  refine CW.ret ?_
  refine Ret.two rfl rfl rfl ?_
  have hD66 := Bk.fz hb59 hm65
  have u67 := Up.freeze hm65 (vb g36)
  have hs068 : Ms M (less M41 (vb g36)) := Ms.less hs050 (Dj.symm (Dj.fresh (Ge.le ge46 (Stp.size (Up.stp (Up.trans u4 (Up.trans u11 (Up.trans u21 (Up.trans u27 u33))))))) (fun _ h => h) hm))
  have hm69 := Up.mb u67
  have u70 := Up.here hm69 hs068
  exact ⟨⟨_, rfl, gr, gw, hD66.up u70, (hTr.up (Up.trans u11 (Up.trans u21 (Up.trans u27 (Up.trans u33 (Up.trans u42 (Up.trans u55 (Up.trans u61 u67)))))))).up u70, (hTw.up (Up.trans u61 u67)).up u70⟩, e64⟩

theorem tableLongest_spec (w : World) (M : MS) (hm : MB w M) {g gr gw : Nat} {rs : List PRule} (hp : At w M ⟨g, 0, none⟩ [.int .i64 (longP rs), .int .i64 (longP (turnP rs)), .pointer (some ⟨gr, 0, none⟩), .pointer (some ⟨gw, 0, none⟩)]) :
    Fc Try.prog 30 #[.pointer (some ⟨g, 0, none⟩)] w fun v w' => v = .tuple #[.int .i64 (longP rs), .int .i64 (longP (turnP rs))] ∧ Ext w w' := by
  have e0 := Stp.refl w (NoM : MS)
  have hs00 : Ms M M := fun _ h => h
  refine Fc.enter (n := 12) [(0, .pointer (some ⟨g, 0, none⟩))] Try.func30 rfl rfl (Nat.le_of_ble_eq_true rfl) (.cons rfl (.nil _)) ?_
  refine CW.seq ?_
  refine CW.region ?_
  refine WL.assign rfl ?_
  refine WL.assign rfl ?_
  refine WL.nil ?_
  refine CW.seq ?_
  refine CW.drawn [] (fun w1 w' => Ext w1 w') mixed (fun w1 ed2 hh3 => ?_)
  have u5 := Ext.up ed2 hm
  have e6 := Stp.ext e0 ed2
  have hm7 := Up.mb u5
  have hcl4 := Stp.refl w1 (fun _ => False)
  refine DW.rF 0 rfl (by kernel_rfl) (fun _ _ _ h => h) (fun w' => Rn.move rfl) ?_
  refine DW.rF 1 rfl (by kernel_rfl) (fun _ _ _ h => h) (fun w' => Rn.nilCheck rfl) ?_
  refine DW.rF 2 rfl (by kernel_rfl) (fun _ _ _ h => h) (fun w' => Rn.fieldAddr fo108_0 rfl) ?_
  refine DW.rT 3 rfl (by kernel_rfl) (fun _ _ _ h => h) (fun w' hC => Rn.load sc3 rfl ((hp.up (Up.trans u5 (Ext.up hC hm7))).cell 0 _ rfl)) ?_
  refine DW.rF 4 rfl (by kernel_rfl) (fun _ _ _ h => h) (fun w' => Rn.move rfl) ?_
  refine DW.rF 5 rfl (by kernel_rfl) (fun _ _ _ h => h) (fun w' => Rn.nilCheck rfl) ?_
  refine DW.rF 6 rfl (by kernel_rfl) (fun _ _ _ h => h) (fun w' => Rn.fieldAddr fo108_1 rfl) ?_
  refine DW.rT 7 rfl (by kernel_rfl) (fun _ _ _ h => h) (fun w' hC => Rn.load sc3 rfl ((hp.up (Up.trans u5 (Ext.up hC hm7))).cell 1 _ rfl)) ?_
  refine DW.rF 8 rfl (by kernel_rfl) (fun _ _ _ h => h) (fun w' => Rn.assign rfl) ?_
  refine DW.rF 9 rfl (by kernel_rfl) (fun _ _ _ h => h) (fun w' => Rn.assign rfl) ?_
  refine DW.done (by kernel_rfl) (fun _ => hcl4) ?_
  refine CW.ret ?_
  refine Ret.two rfl rfl rfl ?_
  exact ⟨rfl, e6⟩

theorem tableRead_spec (w : World) (M : MS) (hm : MB w M) {g gr gw : Nat} {rs : List PRule} (hp : At w M ⟨g, 0, none⟩ [.int .i64 (longP rs), .int .i64 (longP (turnP rs)), .pointer (some ⟨gr, 0, none⟩), .pointer (some ⟨gw, 0, none⟩)]) :
    Fc Try.prog 69 #[.pointer (some ⟨g, 0, none⟩)] w fun v w' => v = .pointer (some ⟨gr, 0, none⟩) ∧ Ext w w' := by
  have e0 := Stp.refl w (NoM : MS)
  have hs00 : Ms M M := fun _ h => h
  refine Fc.enter (n := 7) [(0, .pointer (some ⟨g, 0, none⟩))] Try.func69 rfl rfl (Nat.le_of_ble_eq_true rfl) (.cons rfl (.nil _)) ?_
  refine CW.seq ?_
  refine CW.region ?_
  refine WL.assign rfl ?_
  refine WL.nil ?_
  refine CW.seq ?_
  refine CW.region ?_
  refine WL.move rfl ?_
  refine WL.nilCheck rfl ?_
  refine WL.fieldAddr fo108_2 rfl ?_
  refine WL.load sc101 rfl (hp.cell 2 _ rfl) ?_
  refine WL.assign rfl ?_
  refine WL.nil ?_
  refine CW.ret ?_
  refine Ret.one rfl rfl ?_
  exact ⟨rfl, e0⟩

theorem tableWrite_spec (w : World) (M : MS) (hm : MB w M) {g gr gw : Nat} {rs : List PRule} (hp : At w M ⟨g, 0, none⟩ [.int .i64 (longP rs), .int .i64 (longP (turnP rs)), .pointer (some ⟨gr, 0, none⟩), .pointer (some ⟨gw, 0, none⟩)]) :
    Fc Try.prog 71 #[.pointer (some ⟨g, 0, none⟩)] w fun v w' => v = .pointer (some ⟨gw, 0, none⟩) ∧ Ext w w' := by
  have e0 := Stp.refl w (NoM : MS)
  have hs00 : Ms M M := fun _ h => h
  refine Fc.enter (n := 7) [(0, .pointer (some ⟨g, 0, none⟩))] Try.func71 rfl rfl (Nat.le_of_ble_eq_true rfl) (.cons rfl (.nil _)) ?_
  refine CW.seq ?_
  refine CW.region ?_
  refine WL.assign rfl ?_
  refine WL.nil ?_
  refine CW.seq ?_
  refine CW.region ?_
  refine WL.move rfl ?_
  refine WL.nilCheck rfl ?_
  refine WL.fieldAddr fo108_3 rfl ?_
  refine WL.load sc101 rfl (hp.cell 3 _ rfl) ?_
  refine WL.assign rfl ?_
  refine WL.nil ?_
  refine CW.ret ?_
  refine Ret.one rfl rfl ?_
  exact ⟨rfl, e0⟩

theorem joins_spec (w : World) (M : MS) (hm : MB w M) {g gr gw : Nat} {rs : List PRule} (hp : At w M ⟨g, 0, none⟩ [.int .i64 (longP rs), .int .i64 (longP (turnP rs)), .pointer (some ⟨gr, 0, none⟩), .pointer (some ⟨gw, 0, none⟩)]) (hT : TrieR w M gr rs) {Ap1 : Option Addr} {cp1 : Nat} {xs : List Int} (h1 : SlD IntR 1 w M Ap1 cp1 xs) {Ap2 : Option Addr} {cp2 : Nat} {ys : List Int} (h2 : SlD IntR 1 w M Ap2 cp2 ys) (hl1 : xs.length ≤ 1000) (hl2 : ys.length ≤ 1000) :
    Fc Try.prog 108 #[.pointer (some ⟨g, 0, none⟩), .slice Ap1 xs.length cp1, .slice Ap2 ys.length cp2] w fun v w' => v = .bool (joinsP rs xs ys) ∧ Ext w w' := by
  have e0 := Stp.refl w (NoM : MS)
  have hs00 : Ms M M := fun _ h => h
  have hlim := h1.lim
  have hlim2 := h2.lim
  refine Fc.enter (n := 30) [(0, .pointer (some ⟨g, 0, none⟩)), (1, .slice Ap1 xs.length cp1), (2, .slice Ap2 ys.length cp2)] Try.func108 rfl rfl (Nat.le_of_ble_eq_true rfl) (.cons rfl (.cons rfl (.cons rfl (.nil _)))) ?_
  refine CW.seq ?_
  refine CW.region ?_
  refine WL.assign rfl ?_
  refine WL.nil ?_
  refine CW.seq ?_
  refine CW.seq ?_
  refine CW.region ?_
  refine WL.move rfl ?_
  refine WL.len Try.underlying29 rfl ?_
  refine WL.eql rfl rfl ?_
  refine WL.nil ?_
  refine CW.condP rfl (fun hc1 => ?_) (fun hc1 => ?_)
  · refine CW.seq ?_
    refine CW.region ?_
    refine WL.assign rfl ?_
    refine WL.nil ?_
    refine CW.ret ?_
    refine Ret.one rfl rfl ?_
    exact ⟨by unfold joinsP; rw [decide_eq_false (show ¬ 0 < xs.length by omega)]; rfl, e0⟩
  · refine CW.skip ?_
    refine CW.seq ?_
    refine CW.drawn [] (fun w1 w' => Ext w1 w') mixed (fun w2 ed3 hh4 => ?_)
    have u6 := Ext.up ed3 hm
    have e7 := Stp.ext e0 ed3
    have hm8 := Up.mb u6
    have hcl5 := Stp.refl w2 (fun _ => False)
    refine DW.rF 0 rfl (by kernel_rfl) (fun _ _ _ h => h) (fun w' => Rn.move rfl) ?_
    refine DW.rF 1 rfl (by kernel_rfl) (fun _ _ _ h => h) (fun w' => Rn.nilCheck rfl) ?_
    refine DW.rF 2 rfl (by kernel_rfl) (fun _ _ _ h => h) (fun w' => Rn.fieldAddr fo108_2 rfl) ?_
    refine DW.rT 3 rfl (by kernel_rfl) (fun _ _ _ h => h) (fun w' hC => Rn.load sc101 rfl ((hp.up (Up.trans u6 (Ext.up hC hm8))).cell 2 _ rfl)) ?_
    refine DW.rF 4 rfl (by kernel_rfl) (fun _ _ _ h => h) (fun w' => Rn.move rfl) ?_
    refine DW.rF 6 rfl (by kernel_rfl) (fun _ _ _ h => h) (fun w' => Rn.move rfl) ?_
    refine DW.only 5 (by kernel_rfl) rfl (fun _ => hcl5) ?_
    refine WL.call Try.func88 rfl rfl (.cons rfl (.nil)) (Clone_new _ _ hm8 (h1.up u6) (by omega)) (fun _ w9 hr10 => ?_)
    obtain ⟨M11, hP12⟩ := hr10
    obtain ⟨A13, c14, rfl⟩ := Own.form hP12.own
    have e15 := Stp.ext e7 (NewR.ext hP12)
    have hm16 := Up.mb (NewR.up hP12)
    have hcl17 := Stp.ext hcl5 (NewR.ext hP12)
    have hs018 : Ms M M11 := fun k h => (NewR.ms hP12) k (hs00 k h)
    have wr19 := Wr.fresh NoM (NewR.new hP12) (Stp.size e7)
    refine WL.nil ?_
    refine DW.only 7 (by kernel_rfl) rfl (fun _ => hcl17) ?_
    refine WL.appendR Try.underlying29 ti3 rfl (by decide) rfl rfl (NewR.own hP12) (Sl.atl (SlD.sl (h2.up (Up.trans u6 (NewR.up hP12))))) hm16 (by decide) (by first | omega | (simp; omega)) (fun A20 c21 w22 M23 hO24 hs25 u26 hsub27 hnew28 => ?_)
    have e29 := Stp.wr e15 hs25 wr19
    have hm30 := Up.mb u26
    have hcl31 := Stp.wr hcl17 hs25 (Wr.fresh NoM (NewR.new hP12) (Nat.le_refl _))
    have hs032 : Ms M M23 := fun k h => hsub27 k (hs018 k h)
    have wr33 := Wr.grow wr19 hnew28 (Stp.size e15)
    have ge34 := Ge.grow (NewR.new hP12) hnew28 (Stp.size (Up.stp (NewR.up hP12)))
    have hD35 := Own.freeze hO24 hm30
    have u36 := Up.freeze hm30 (ob (.slice A20 (xs ++ ys).length c21))
    have hs037 : Ms M (less M23 (ob (.slice A20 (xs ++ ys).length c21))) := Ms.less hs032 (Dj.symm (Dj.fresh (Ge.le ge34 (Stp.size (Up.stp u6))) (fun _ h => h) hm))
    have hm38 := Up.mb u36
    refine WL.nil ?_
    refine DW.only 8 (by kernel_rfl) rfl (fun _ => hcl31) ?_
    refine WL.call Try.func109 rfl rfl (.cons rfl (.cons rfl (.nil))) ((hT.up (Up.trans u6 (Up.trans (NewR.up hP12) (Up.trans u26 u36)))).longest hm38 hD35) (fun _ w39 hr40 => ?_)
    obtain ⟨rfl, he41⟩ := hr40
    have u42 := Ext.up he41 hm38
    have e43 := Stp.ext e29 he41
    have hm44 := Up.mb u42
    have hcl45 := Stp.ext hcl31 he41
    refine WL.nil ?_
    refine DW.rF 9 rfl (by kernel_rfl) (fun _ _ _ h => h) (fun w' => Rn.move rfl) ?_
    refine DW.rF 10 rfl (by kernel_rfl) (fun _ _ _ h => h) (fun w' => Rn.extract rfl rfl) ?_
    refine DW.rF 11 rfl (by kernel_rfl) (fun _ _ _ h => h) (fun w' => Rn.extract rfl rfl) ?_
    refine DW.rF 12 rfl (by kernel_rfl) (fun _ _ _ h => h) (fun w' => Rn.extract rfl rfl) ?_
    refine DW.rF 13 rfl (by kernel_rfl) (fun _ _ _ h => h) (fun w' => Rn.assign rfl) ?_
    refine DW.rF 14 rfl (by kernel_rfl) (fun _ _ _ h => h) (fun w' => Rn.assign rfl) ?_
    refine DW.rF 15 rfl (by kernel_rfl) (fun _ _ _ h => h) (fun w' => Rn.assign rfl) ?_
    refine DW.done (by kernel_rfl) (fun _ => hcl45) ?_
    refine CW.seq ?_
    refine CW.region ?_
    refine WL.move rfl ?_
    refine WL.move rfl ?_
    refine WL.len Try.underlying29 rfl ?_
    refine WL.gtr rfl rfl ?_
    refine WL.assign rfl ?_
    refine WL.nil ?_
    refine CW.ret ?_
    refine Ret.one rfl rfl ?_
    exact ⟨by unfold joinsP; rw [decide_eq_true (show 0 < xs.length by omega), Bool.true_and], e43⟩

theorem join_spec (w : World) (M : MS) (hm : MB w M) {g gr gw : Nat} {rs : List PRule} (hp : At w M ⟨g, 0, none⟩ [.int .i64 (longP rs), .int .i64 (longP (turnP rs)), .pointer (some ⟨gr, 0, none⟩), .pointer (some ⟨gw, 0, none⟩)]) (hT : TrieR w M gr rs) {Ap1 : Option Addr} {cp1 : Nat} {xs : List Int} (h1 : SlD IntR 1 w M Ap1 cp1 xs) {x : PTok} {Ap2 : Option Addr} {cp2 : Nat} (h2 : SlD IntR 1 w M Ap2 cp2 x.out) (hl1 : xs.length ≤ 1000) (hl2 : x.out.length ≤ 1000) :
    Fc Try.prog 92 #[.pointer (some ⟨g, 0, none⟩), .slice Ap1 xs.length cp1, .agg #[.int .i64 x.at_, .int .i64 x.len, .slice Ap2 x.out.length cp2, .int .i64 x.err]] w fun v w' => (∃ A c, v = .agg #[.int .i64 (joinTok rs xs x).at_, .int .i64 (joinTok rs xs x).len, .slice A (joinTok rs xs x).out.length c, .int .i64 (joinTok rs xs x).err] ∧ SlD IntR 1 w' M A c (joinTok rs xs x).out) ∧ Ext w w' := by
  have e0 := Stp.refl w (NoM : MS)
  have hs00 : Ms M M := fun _ h => h
  have hlim := h1.lim
  have hlim2 := h2.lim
  refine Fc.enter (n := 23) [(0, .pointer (some ⟨g, 0, none⟩)), (1, .slice Ap1 xs.length cp1), (2, .agg #[.int .i64 x.at_, .int .i64 x.len, .slice Ap2 x.out.length cp2, .int .i64 x.err])] Try.func92 rfl rfl (Nat.le_of_ble_eq_true rfl) (.cons rfl (.cons rfl (.cons rfl (.nil _)))) ?_
  refine CW.seq ?_
  refine CW.region ?_
  refine WL.box (cs := [.int .i64 x.at_, .int .i64 x.len, .slice Ap2 x.out.length cp2, .int .i64 x.err]) rfl rfl (fun g1 w2 hg3 hb4 he5 => ?_)
  obtain ⟨M6, u7, mem8, hsub9, hinv10⟩ := Ext.addVar he5 hm hg3 hb4
  have ge11 : ∀ q_, vb g1 q_ → w.heap.size ≤ q_ := fun q_ hq_ => by rw [hq_]; exact hg3
  have mem12 := Ms.one mem8
  have e13 := Stp.ext e0 he5
  have hm14 := Up.mb u7
  have hs015 : Ms M M6 := fun k h => hsub9 k (hs00 k h)
  have wr16 := Wr.fresh NoM ge11 (Stp.size e0)
  refine WL.alloc (cs := [.int .i64 0, .int .i64 0, .slice none 0 0, .int .i64 0]) ti58 rfl (fun g17 w18 hg19 hb20 he21 => ?_)
  obtain ⟨M22, u23, mem24, hsub25, hinv26⟩ := Ext.addVar he21 hm14 hg19 hb20
  have ge27 : ∀ q_, vb g17 q_ → w2.heap.size ≤ q_ := fun q_ hq_ => by rw [hq_]; exact hg19
  have mem28 := Ms.one mem24
  have e29 := Stp.ext e13 he21
  have hm30 := Up.mb u23
  have hs031 : Ms M M22 := fun k h => hsub25 k (hs015 k h)
  have dj32 := Dj.fresh (T := (vb g1)) ge27 mem12 hm14
  have wr33 := Wr.fresh NoM ge27 (Stp.size e13)
  refine WL.nil ?_
  refine CW.seq ?_
  refine CW.seq ?_
  refine CW.region ?_
  refine WL.fieldAddr fo58_3 rfl ?_
  have h34 := Bk.ext hb4 he21
  refine WL.load sc46 rfl ((Bk.at_ (M := fun _ => False) h34 (fun h => h)).cell 3 _ rfl) ?_
  refine WL.eql rfl rfl ?_
  refine WL.move rfl ?_
  by_cases hg35 : x.err = 0
  · refine WL.gtake rfl rfl (decide_eq_true hg35) ?_
    refine WL.move rfl ?_
    refine WL.gtake rfl rfl (decide_eq_true hg35) ?_
    refine WL.move rfl ?_
    refine WL.gtake rfl rfl (decide_eq_true hg35) ?_
    refine WL.fieldAddr fo58_2 rfl ?_
    refine WL.gtake rfl rfl (decide_eq_true hg35) ?_
    refine WL.load sc29 rfl ((Bk.at_ (M := fun _ => False) h34 (fun h => h)).cell 2 _ rfl) ?_
    refine WL.gtake rfl rfl (decide_eq_true hg35) ?_
    refine WL.call Try.func108 rfl rfl (.cons rfl (.cons rfl (.cons rfl (.nil)))) (joins_spec _ _ hm30 (hp.up (Up.trans u7 u23)) (hT.up (Up.trans u7 u23)) (h1.up (Up.trans u7 u23)) (h2.up (Up.trans u7 u23)) hl1 hl2) (fun _ w36 hr37 => ?_)
    obtain ⟨rfl, he38⟩ := hr37
    have u39 := Ext.up he38 hm30
    have e40 := Stp.ext e29 he38
    have hm41 := Up.mb u39
    refine WL.pickT (congrArg (fun b => some (Value.bool b)) (decide_eq_true hg35)) rfl ?_
    refine WL.nil ?_
    refine CW.condB rfl (fun hc42 => ?_) (fun hc42 => ?_)
    · refine CW.seq ?_
      refine CW.region ?_
      refine WL.fieldAddr fo58_0 rfl ?_
      have h43 := Bk.ext h34 he38
      refine WL.load sc3 rfl ((Bk.at_ (M := fun _ => False) h43 (fun h => h)).cell 0 _ rfl) ?_
      refine WL.fieldAddr fo58_1 rfl ?_
      refine WL.load sc3 rfl ((Bk.at_ (M := fun _ => False) h43 (fun h => h)).cell 1 _ rfl) ?_
      refine WL.buildP (cs := #[.int .i64 x.at_, .int .i64 x.len, .slice none 0 0, .int .i64 3]) (.cons rfl (.cons rfl (.cons rfl (.nil)))) (by kernel_rfl) ?_
      have h48 := Bk.ext hb20 he38
      refine WL.storeAll (vs := [.int .i64 x.at_, .int .i64 x.len, .slice none 0 0, .int .i64 3]) (by rw [ti58]; rfl) rfl rfl (by simp [Value.oneCell']) h48 rfl (fun w44 hb45 hs46 => ?_)
      have u47 := Stp.upM hs46 hm41 mem28
      have e49 := Stp.wr e40 hs46 wr33
      have hm50 := Up.mb u47
      refine WL.nil ?_
      refine CW.ret ?_
      refine Ret.cell1 (cs := [.int .i64 x.at_, .int .i64 x.len, .slice none 0 0, .int .i64 3]) rfl rfl ag58 hb45  ?_
      have u51 := Up.here hm50 hs031
      have hjt : joinTok rs xs x = ⟨x.at_, x.len, [], 3⟩ := by simp [joinTok, hg35, hc42]
      rw [hjt]
      exact ⟨⟨none, 0, rfl, SlD.empty fun _ => rfl⟩, e49⟩
    · refine CW.skip ?_
      refine CW.seq ?_
      refine CW.region ?_
      have h52 := Bk.ext h34 he38
      refine WL.loadAgg (cs := [.int .i64 x.at_, .int .i64 x.len, .slice Ap2 x.out.length cp2, .int .i64 x.err]) ag58 rfl (Bk.at_ (M := fun _ => False) h52 (fun h => h)) ?_
      have h57 := Bk.ext hb20 he38
      refine WL.storeAll (vs := [.int .i64 x.at_, .int .i64 x.len, .slice Ap2 x.out.length cp2, .int .i64 x.err]) (by rw [ti58]; rfl) rfl rfl (by simp [Value.oneCell']) h57 rfl (fun w53 hb54 hs55 => ?_)
      have u56 := Stp.upM hs55 hm41 mem28
      have e58 := Stp.wr e40 hs55 wr33
      have hm59 := Up.mb u56
      refine WL.nil ?_
      refine CW.ret ?_
      refine Ret.cell1 (cs := [.int .i64 x.at_, .int .i64 x.len, .slice Ap2 x.out.length cp2, .int .i64 x.err]) rfl rfl ag58 hb54  ?_
      have u60 := Up.here hm59 hs031
      have hjt : joinTok rs xs x = x := by simp [joinTok, hg35, hc42]
      rw [hjt]
      exact ⟨⟨_, _, rfl, (h2.up (Up.trans u7 (Up.trans u23 (Up.trans u39 u56)))).up u60⟩, e58⟩
  · refine WL.gskip rfl rfl (decide_eq_false hg35) ?_
    refine WL.gskip rfl rfl (decide_eq_false hg35) ?_
    refine WL.gskip rfl rfl (decide_eq_false hg35) ?_
    refine WL.gskip rfl rfl (decide_eq_false hg35) ?_
    refine WL.gskip rfl rfl (decide_eq_false hg35) ?_
    refine WL.pickF (congrArg (fun b => some (Value.bool b)) (decide_eq_false hg35)) rfl ?_
    refine WL.nil ?_
    refine CW.condF rfl ?_
    refine CW.skip ?_
    refine CW.seq ?_
    refine CW.region ?_
    refine WL.loadAgg (cs := [.int .i64 x.at_, .int .i64 x.len, .slice Ap2 x.out.length cp2, .int .i64 x.err]) ag58 rfl (Bk.at_ (M := fun _ => False) h34 (fun h => h)) ?_
    refine WL.storeAll (vs := [.int .i64 x.at_, .int .i64 x.len, .slice Ap2 x.out.length cp2, .int .i64 x.err]) (by rw [ti58]; rfl) rfl rfl (by simp [Value.oneCell']) hb20 rfl (fun w61 hb62 hs63 => ?_)
    have u64 := Stp.upM hs63 hm30 mem28
    have e65 := Stp.wr e29 hs63 wr33
    have hm66 := Up.mb u64
    refine WL.nil ?_
    refine CW.ret ?_
    refine Ret.cell1 (cs := [.int .i64 x.at_, .int .i64 x.len, .slice Ap2 x.out.length cp2, .int .i64 x.err]) rfl rfl ag58 hb62  ?_
    have u67 := Up.here hm66 hs031
    have hjt : joinTok rs xs x = x := by simp [joinTok, hg35]
    rw [hjt]
    exact ⟨⟨_, _, rfl, (h2.up (Up.trans u7 (Up.trans u23 u64))).up u67⟩, e65⟩
end Go.Proofs.Ytgbajkdomcmblaa
