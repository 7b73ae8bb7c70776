/- What the readers of package trie come to: walks. -/
import Derived.Test.YtgbajkdomcmblaaMachB
namespace Go.Proofs.Ytgbajkdomcmblaa
open Go Go.RowKit Vc
set_option linter.unusedVariables false
set_option linter.unusedSimpArgs false
private theorem fo100_1 : fieldOff Try.prog 100 1 = some 1 := by kernel_rfl
private theorem fo133_0 : fieldOff Try.prog 133 0 = some 0 := by kernel_rfl
private theorem fo133_1 : fieldOff Try.prog 133 1 = some 1 := by kernel_rfl
private theorem fo133_2 : fieldOff Try.prog 133 2 = some 2 := by kernel_rfl
private theorem fo133_3 : fieldOff Try.prog 133 3 = some 3 := by kernel_rfl
private theorem fo136_0 : fieldOff Try.prog 136 0 = some 0 := by kernel_rfl
private theorem fo136_1 : fieldOff Try.prog 136 1 = some 1 := by kernel_rfl
private theorem es29 : elemSize Try.prog 29 = some 1 := by kernel_rfl
private theorem es49 : elemSize Try.prog 49 = some 2 := by kernel_rfl
private theorem es134 : elemSize Try.prog 134 = some 4 := by kernel_rfl
private theorem sc3 : scalar Try.prog 3 = true := by kernel_rfl
private theorem sc29 : scalar Try.prog 29 = true := by kernel_rfl
private theorem sc49 : scalar Try.prog 49 = true := by kernel_rfl
private theorem sc134 : scalar Try.prog 134 = true := by kernel_rfl
private theorem ti3 : tinfo Try.prog 3 = some (some (.int .i64 0), 1, 8) := by kernel_rfl
def longV (r : Int × Int × Bool) : Value := .tuple #[.int .i64 r.1, .int .i64 r.2.1, .bool r.2.2]

theorem trieRule_spec (w : World) (M : MS) (hm : MB w M) {g : Nat} {An Ar : Option Addr} {cn cr : Nat} {nodes : List PNode} {rules : List PRule} (hp : At w M ⟨g, 0, none⟩ [.slice An nodes.length cn, .slice Ar rules.length cr]) (hn : SlD NodeR 4 w M An cn nodes) (hr : SlD RuleR 2 w M Ar cr rules) {at_ : Nat} (hat : at_ < nodes.length) :
    Fc Try.prog 115 #[.pointer (some ⟨g, 0, none⟩), .int .i64 (at_ : Int)] w fun v w' => v = .int .i64 nodes[at_].rule ∧ Ext w w' := by
  have e0 := Stp.refl w (fun _ => False)
  have hlim := hn.lim
  have hlim2 := hr.lim
  refine Fc.enter (n := 24) [(0, .pointer (some ⟨g, 0, none⟩)), (1, .int .i64 (at_ : Int))] Try.func115 rfl rfl (Nat.le_of_ble_eq_true rfl) (.cons rfl (.cons rfl (.nil _))) ?_
  refine CW.seq ?_
  refine CW.region ?_
  refine WL.assign rfl ?_
  refine WL.nil ?_
  refine CW.seq ?_
  refine CW.seq ?_
  refine CW.region ?_
  refine WL.move rfl ?_
  refine WL.lss rfl rfl ?_
  refine WL.move rfl ?_
  have hev1 : ¬ ((at_ : Int) < 0) := by omega
  refine WL.gtake rfl rfl (decide_eq_false hev1) ?_
  refine WL.move rfl ?_
  refine WL.gtake rfl rfl (decide_eq_false hev1) ?_
  refine WL.move rfl ?_
  refine WL.gtake rfl rfl (decide_eq_false hev1) ?_
  refine WL.nilCheck rfl ?_
  refine WL.gtake rfl rfl (decide_eq_false hev1) ?_
  refine WL.fieldAddr fo136_0 rfl ?_
  refine WL.gtake rfl rfl (decide_eq_false hev1) ?_
  refine WL.load sc134 rfl (hp.cell 0 _ rfl) ?_
  refine WL.gtake rfl rfl (decide_eq_false hev1) ?_
  refine WL.len Try.underlying134 rfl ?_
  refine WL.gtake rfl rfl (decide_eq_false hev1) ?_
  refine WL.geq rfl rfl ?_
  refine WL.pickF (congrArg (fun b => some (Value.bool b)) (decide_eq_false hev1)) rfl ?_
  refine WL.nil ?_
  have hev2 : ¬ ((nodes.length : Int) ≤ (at_ : Int)) := by omega
  refine CW.condP rfl (fun hn => absurd hn hev2) (fun _ => ?_)
  refine CW.skip ?_
  refine CW.seq ?_
  refine CW.region ?_
  refine WL.move rfl ?_
  refine WL.nilCheck rfl ?_
  refine WL.fieldAddr fo136_0 rfl ?_
  refine WL.load sc134 rfl (hp.cell 0 _ rfl) ?_
  refine WL.move rfl ?_
  have hlt3 : at_ < nodes.length := by omega
  obtain ⟨ad4, cs5, hA6, hs7, hat8, hR9⟩ := SlD.get hn (List.getElem?_eq_getElem hlt3)
  rw [show _ = _ from hR9.1] at hat8
  have hhR9 := hR9.2; simp only [I64] at hhR9
  refine WL.idx es134 rfl rfl hA6 (by omega) (by omega) ?_
  refine WL.fieldAddr fo133_3 rfl ?_
  refine WL.load sc3 rfl (hat8.cell 3 _ rfl) ?_
  refine WL.assign rfl ?_
  refine WL.nil ?_
  refine CW.ret ?_
  refine Ret.one rfl rfl ?_
  exact ⟨rfl, e0⟩

theorem trieLeaf_spec (w : World) (M : MS) (hm : MB w M) {g : Nat} {An Ar : Option Addr} {cn cr : Nat} {nodes : List PNode} {rules : List PRule} (hp : At w M ⟨g, 0, none⟩ [.slice An nodes.length cn, .slice Ar rules.length cr]) (hn : SlD NodeR 4 w M An cn nodes) (hr : SlD RuleR 2 w M Ar cr rules) {at_ : Nat} (hat : at_ < nodes.length) :
    Fc Try.prog 116 #[.pointer (some ⟨g, 0, none⟩), .int .i64 (at_ : Int)] w fun v w' => v = .bool (decide (nodes[at_].kid = 0)) ∧ Ext w w' := by
  have e0 := Stp.refl w (fun _ => False)
  have hlim := hn.lim
  have hlim2 := hr.lim
  refine Fc.enter (n := 27) [(0, .pointer (some ⟨g, 0, none⟩)), (1, .int .i64 (at_ : Int))] Try.func116 rfl rfl (Nat.le_of_ble_eq_true rfl) (.cons rfl (.cons rfl (.nil _))) ?_
  refine CW.seq ?_
  refine CW.region ?_
  refine WL.assign rfl ?_
  refine WL.nil ?_
  refine CW.seq ?_
  refine CW.region ?_
  refine WL.move rfl ?_
  refine WL.lss rfl rfl ?_
  refine WL.move rfl ?_
  have hev1 : ¬ ((at_ : Int) < 0) := by omega
  refine WL.gtake rfl rfl (decide_eq_false hev1) ?_
  refine WL.move rfl ?_
  refine WL.gtake rfl rfl (decide_eq_false hev1) ?_
  refine WL.move rfl ?_
  refine WL.gtake rfl rfl (decide_eq_false hev1) ?_
  refine WL.nilCheck rfl ?_
  refine WL.gtake rfl rfl (decide_eq_false hev1) ?_
  refine WL.fieldAddr fo136_0 rfl ?_
  refine WL.gtake rfl rfl (decide_eq_false hev1) ?_
  refine WL.load sc134 rfl (hp.cell 0 _ rfl) ?_
  refine WL.gtake rfl rfl (decide_eq_false hev1) ?_
  refine WL.len Try.underlying134 rfl ?_
  refine WL.gtake rfl rfl (decide_eq_false hev1) ?_
  refine WL.geq rfl rfl ?_
  refine WL.pickF (congrArg (fun b => some (Value.bool b)) (decide_eq_false hev1)) rfl ?_
  refine WL.move rfl ?_
  have hev2 : ¬ ((nodes.length : Int) ≤ (at_ : Int)) := by omega
  refine WL.gtake rfl rfl (decide_eq_false hev2) ?_
  refine WL.move rfl ?_
  refine WL.gtake rfl rfl (decide_eq_false hev2) ?_
  refine WL.nilCheck rfl ?_
  refine WL.gtake rfl rfl (decide_eq_false hev2) ?_
  refine WL.fieldAddr fo136_0 rfl ?_
  refine WL.gtake rfl rfl (decide_eq_false hev2) ?_
  refine WL.load sc134 rfl (hp.cell 0 _ rfl) ?_
  refine WL.gtake rfl rfl (decide_eq_false hev2) ?_
  refine WL.move rfl ?_
  refine WL.gtake rfl rfl (decide_eq_false hev2) ?_
  have hlt3 : at_ < nodes.length := by omega
  obtain ⟨ad4, cs5, hA6, hs7, hat8, hR9⟩ := SlD.get hn (List.getElem?_eq_getElem hlt3)
  rw [show _ = _ from hR9.1] at hat8
  have hhR9 := hR9.2; simp only [I64] at hhR9
  refine WL.idx es134 rfl rfl hA6 (by omega) (by omega) ?_
  refine WL.gtake rfl rfl (decide_eq_false hev2) ?_
  refine WL.fieldAddr fo133_1 rfl ?_
  refine WL.gtake rfl rfl (decide_eq_false hev2) ?_
  refine WL.load sc3 rfl (hat8.cell 1 _ rfl) ?_
  refine WL.gtake rfl rfl (decide_eq_false hev2) ?_
  refine WL.eql rfl rfl ?_
  refine WL.pickF (congrArg (fun b => some (Value.bool b)) (decide_eq_false hev2)) rfl ?_
  refine WL.assign rfl ?_
  refine WL.nil ?_
  refine CW.ret ?_
  refine Ret.one rfl rfl ?_
  exact ⟨rfl, e0⟩

theorem trieOut_spec (w : World) (M : MS) (hm : MB w M) {g : Nat} {An Ar : Option Addr} {cn cr : Nat} {nodes : List PNode} {rules : List PRule} (hp : At w M ⟨g, 0, none⟩ [.slice An nodes.length cn, .slice Ar rules.length cr]) (hn : SlD NodeR 4 w M An cn nodes) (hr : SlD RuleR 2 w M Ar cr rules) {at_ : Nat} (hat : at_ < rules.length) (hl : rules[at_].out.length ≤ 1000) :
    Fc Try.prog 110 #[.pointer (some ⟨g, 0, none⟩), .int .i64 (at_ : Int)] w fun v w' => Sl IntR 1 w' M v rules[at_].out ∧ Ext w w' := by
  have e0 := Stp.refl w (fun _ => False)
  have hlim := hn.lim
  have hlim2 := hr.lim
  refine Fc.enter (n := 25) [(0, .pointer (some ⟨g, 0, none⟩)), (1, .int .i64 (at_ : Int))] Try.func110 rfl rfl (Nat.le_of_ble_eq_true rfl) (.cons rfl (.cons rfl (.nil _))) ?_
  refine CW.seq ?_
  refine CW.region ?_
  refine WL.assign rfl ?_
  refine WL.nil ?_
  refine CW.seq ?_
  refine CW.seq ?_
  refine CW.region ?_
  refine WL.move rfl ?_
  refine WL.lss rfl rfl ?_
  refine WL.move rfl ?_
  have hev1 : ¬ ((at_ : Int) < 0) := by omega
  refine WL.gtake rfl rfl (decide_eq_false hev1) ?_
  refine WL.move rfl ?_
  refine WL.gtake rfl rfl (decide_eq_false hev1) ?_
  refine WL.move rfl ?_
  refine WL.gtake rfl rfl (decide_eq_false hev1) ?_
  refine WL.nilCheck rfl ?_
  refine WL.gtake rfl rfl (decide_eq_false hev1) ?_
  refine WL.fieldAddr fo136_1 rfl ?_
  refine WL.gtake rfl rfl (decide_eq_false hev1) ?_
  refine WL.load sc49 rfl (hp.cell 1 _ rfl) ?_
  refine WL.gtake rfl rfl (decide_eq_false hev1) ?_
  refine WL.len Try.underlying49 rfl ?_
  refine WL.gtake rfl rfl (decide_eq_false hev1) ?_
  refine WL.geq rfl rfl ?_
  refine WL.pickF (congrArg (fun b => some (Value.bool b)) (decide_eq_false hev1)) rfl ?_
  refine WL.nil ?_
  have hev2 : ¬ ((rules.length : Int) ≤ (at_ : Int)) := by omega
  refine CW.condP rfl (fun hn => absurd hn hev2) (fun _ => ?_)
  refine CW.skip ?_
  refine CW.seq ?_
  refine CW.region ?_
  refine WL.move rfl ?_
  refine WL.nilCheck rfl ?_
  refine WL.fieldAddr fo136_1 rfl ?_
  refine WL.load sc49 rfl (hp.cell 1 _ rfl) ?_
  refine WL.move rfl ?_
  have hlt3 : at_ < rules.length := by omega
  obtain ⟨ad4, cs5, hA6, hs7, hat8, hR9⟩ := SlD.get hr (List.getElem?_eq_getElem hlt3)
  obtain ⟨_, _, hx14, ⟨A10, c11, rfl, hD15⟩, ⟨A12, c13, rfl, hD16⟩⟩ := hR9
  rw [hx14] at hat8
  have hl17 := SlD.lim hD15
  have hl18 := SlD.lim hD16
  refine WL.idx es49 rfl rfl hA6 (by omega) (by omega) ?_
  refine WL.fieldAddr fo100_1 rfl ?_
  refine WL.load sc29 rfl (hat8.cell 1 _ rfl) ?_
  refine WL.append Try.underlying29 ti3 rfl (by decide) rfl rfl (Own.nil (R := IntR) (sz := 1) (e := 3) (w := w) (M := M) (B := w.heap.size)) (SlD.sl hD16) (Nat.le_refl _) hm (by decide) (by simp; omega) (fun v19 w20 M21 hO22 hs23 u24 hsub25 hnew26 => ?_)
  have e27 := Ext.stp e0 hs23 (fun k hk => by simp [Value.ownBlock] at hk)
  have hm28 := Up.mb u24
  have hsb29 : ∀ k, M k → M21 k := fun k h => hsub25 k ((fun _ h => h) k h)
  refine WL.assign rfl ?_
  refine WL.nil ?_
  refine CW.ret ?_
  refine Ret.one rfl rfl ?_
  exact ⟨by have := Own.read0 hO22 hm28 hsb29 hm; simpa using this, e27⟩

theorem Step_spec (w : World) (M : MS) (hm : MB w M) {g : Nat} {An Ar : Option Addr} {cn cr : Nat} {nodes : List PNode} {rules : List PRule} (hp : At w M ⟨g, 0, none⟩ [.slice An nodes.length cn, .slice Ar rules.length cr]) (hn : SlD NodeR 4 w M An cn nodes) (hr : SlD RuleR 2 w M Ar cr rules) {at_ : Nat} (hat : at_ < nodes.length) (u : Int) {l : List Nat} (hc : Chain nodes nodes[at_].kid l) :
    Fc Try.prog 85 #[.pointer (some ⟨g, 0, none⟩), .int .i64 (at_ : Int), .int .i64 u] w fun v w' => v = stepV (l.find? (unitAt nodes u)) ∧ Ext w w' := by
  have e0 := Stp.refl w (fun _ => False)
  have hlim := hn.lim
  have hlim2 := hr.lim
  refine Fc.enter (n := 49) [(0, .pointer (some ⟨g, 0, none⟩)), (1, .int .i64 (at_ : Int)), (2, .int .i64 u)] Try.func85 rfl rfl (Nat.le_of_ble_eq_true rfl) (.cons rfl (.cons rfl (.cons rfl (.nil _)))) ?_
  refine CW.seq ?_
  refine CW.region ?_
  refine WL.assign rfl ?_
  refine WL.assign rfl ?_
  refine WL.nil ?_
  refine CW.seq ?_
  refine CW.seq ?_
  refine CW.region ?_
  refine WL.move rfl ?_
  refine WL.lss rfl rfl ?_
  refine WL.move rfl ?_
  have hev1 : ¬ ((at_ : Int) < 0) := by omega
  refine WL.gtake rfl rfl (decide_eq_false hev1) ?_
  refine WL.move rfl ?_
  refine WL.gtake rfl rfl (decide_eq_false hev1) ?_
  refine WL.move rfl ?_
  refine WL.gtake rfl rfl (decide_eq_false hev1) ?_
  refine WL.nilCheck rfl ?_
  refine WL.gtake rfl rfl (decide_eq_false hev1) ?_
  refine WL.fieldAddr fo136_0 rfl ?_
  refine WL.gtake rfl rfl (decide_eq_false hev1) ?_
  refine WL.load sc134 rfl (hp.cell 0 _ rfl) ?_
  refine WL.gtake rfl rfl (decide_eq_false hev1) ?_
  refine WL.len Try.underlying134 rfl ?_
  refine WL.gtake rfl rfl (decide_eq_false hev1) ?_
  refine WL.geq rfl rfl ?_
  refine WL.pickF (congrArg (fun b => some (Value.bool b)) (decide_eq_false hev1)) rfl ?_
  refine WL.nil ?_
  have hev2 : ¬ ((nodes.length : Int) ≤ (at_ : Int)) := by omega
  refine CW.condP rfl (fun hn => absurd hn hev2) (fun _ => ?_)
  refine CW.skip ?_
  refine CW.seq ?_
  refine CW.seq ?_
  refine CW.region ?_
  refine WL.move rfl ?_
  refine WL.nilCheck rfl ?_
  refine WL.fieldAddr fo136_0 rfl ?_
  refine WL.load sc134 rfl (hp.cell 0 _ rfl) ?_
  refine WL.move rfl ?_
  have hlt3 : at_ < nodes.length := by omega
  obtain ⟨ad4, cs5, hA6, hs7, hat8, hR9⟩ := SlD.get hn (List.getElem?_eq_getElem hlt3)
  rw [show _ = _ from hR9.1] at hat8
  have hhR9 := hR9.2; simp only [I64] at hhR9
  refine WL.idx es134 rfl rfl hA6 (by omega) (by omega) ?_
  refine WL.fieldAddr fo133_1 rfl ?_
  refine WL.load sc3 rfl (hat8.cell 1 _ rfl) ?_
  refine WL.assign rfl ?_
  refine WL.nil ?_
  refine CW.block ?_
  refine CW.loop (fun m σ wr0 => ∃ k : Int, ∃ l2 : List Nat, m = l2.length ∧ σ = [(0, .pointer (some ⟨g, 0, none⟩)), (2, .int .i64 u), (8, .int .i64 k)] ∧ (Up w M wr0 M) ∧ (Ext w wr0) ∧ (Ext w wr0) ∧ (Chain nodes k l2) ∧ (l.find? (unitAt nodes u) = l2.find? (unitAt nodes u))) _ _ (.cons (t := 0) rfl (.cons (t := 2) rfl (.cons (t := 8) rfl (.nil _)))) ⟨nodes[at_].kid, l, rfl, rfl, Up.refl hm, e0, Stp.refl _ _, hc, rfl⟩ ?_
  rintro m _ wr0 ⟨k, l2, rfl, rfl, hU10, hE11, hX14, hch, hf⟩
  have hm12 := Up.mb hU10
  refine CW.seq ?_
  refine CW.seq ?_
  refine CW.region ?_
  refine WL.move rfl ?_
  refine WL.gtr rfl rfl ?_
  refine WL.nil ?_
  refine CW.condP rfl (fun hc16 => ?_) (fun hc16 => ?_)
  · cases hch with
    | nil => omega
    | @cons i l3 hi0 hil hch2 =>
      refine CW.skip ?_
      refine CW.seq ?_
      refine CW.block ?_
      refine CW.seq ?_
      refine CW.region ?_
      refine WL.move rfl ?_
      refine WL.nilCheck rfl ?_
      refine WL.fieldAddr fo136_0 rfl ?_
      refine WL.load sc134 rfl ((hp.up hU10).cell 0 _ rfl) ?_
      refine WL.move rfl ?_
      have hlt17 : i < nodes.length := by omega
      obtain ⟨ad18, cs19, hA20, hs21, hat22, hR23⟩ := SlD.get (hn.up hU10) (List.getElem?_eq_getElem hlt17)
      rw [show _ = _ from hR23.1] at hat22
      have hhR23 := hR23.2; simp only [I64] at hhR23
      refine WL.idx es134 rfl rfl hA20 (by omega) (by omega) ?_
      refine WL.fieldAddr fo133_0 rfl ?_
      refine WL.load sc3 rfl (hat22.cell 0 _ rfl) ?_
      refine WL.move rfl ?_
      refine WL.eql rfl rfl ?_
      refine WL.nil ?_
      refine CW.condP rfl (fun hc24 => ?_) (fun hc24 => ?_)
      · refine CW.seq ?_
        refine CW.region ?_
        refine WL.move rfl ?_
        refine WL.assign rfl ?_
        refine WL.assign rfl ?_
        refine WL.nil ?_
        refine CW.ret ?_
        refine Ret.two rfl rfl rfl ?_
        exact ⟨by rw [hf]; simp [unitAt, List.getElem?_eq_getElem hil, hc24, stepV], hE11⟩
      · refine CW.skip ?_
        refine CW.region ?_
        refine WL.move rfl ?_
        refine WL.nilCheck rfl ?_
        refine WL.fieldAddr fo136_0 rfl ?_
        refine WL.load sc134 rfl ((hp.up hU10).cell 0 _ rfl) ?_
        refine WL.move rfl ?_
        have hlt25 : i < nodes.length := by omega
        obtain ⟨ad26, cs27, hA28, hs29, hat30, hR31⟩ := SlD.get (hn.up hU10) (List.getElem?_eq_getElem hlt25)
        rw [show _ = _ from hR31.1] at hat30
        have hhR31 := hR31.2; simp only [I64] at hhR31
        refine WL.idx es134 rfl rfl hA28 (by omega) (by omega) ?_
        refine WL.fieldAddr fo133_2 rfl ?_
        refine WL.load sc3 rfl (hat30.cell 2 _ rfl) ?_
        refine WL.assign rfl ?_
        refine WL.nil ?_
        refine Loop.again _ _ ?_ ?_ ⟨_, _, rfl, rfl, hU10, hE11, hX14, hch2, by rw [hf]; simp [unitAt, List.getElem?_eq_getElem hil, hc24]⟩
        · simp
        · exact .cons (t := 0) rfl (.cons (t := 2) rfl (.cons (t := 8) rfl (.nil _)))
  · have hl0 : l2 = [] := by
      cases hch with
      | nil => rfl
      | cons h0 => omega
    refine CW.exit ?_
    refine CW.seq ?_
    refine CW.region ?_
    refine WL.assign rfl ?_
    refine WL.assign rfl ?_
    refine WL.nil ?_
    refine CW.ret ?_
    refine Ret.two rfl rfl rfl ?_
    exact ⟨by rw [hf, hl0]; rfl, hE11⟩

theorem trieLongest_spec (w : World) (M : MS) (hm : MB w M) {g : Nat} {An Ar : Option Addr} {cn cr : Nat} {nodes : List PNode} {rules : List PRule} (hp : At w M ⟨g, 0, none⟩ [.slice An nodes.length cn, .slice Ar rules.length cr]) (hn : SlD NodeR 4 w M An cn nodes) (hr : SlD RuleR 2 w M Ar cr rules) {Ap1 : Option Addr} {cp1 : Nat} {us : List Int} (h1 : SlD IntR 1 w M Ap1 cp1 us) {kids : Nat → List Nat} (h0n : 0 < nodes.length) (hk : ∀ (a : Nat) (ha : a < nodes.length), Chain nodes nodes[a].kid (kids a)) :
    Fc Try.prog 109 #[.pointer (some ⟨g, 0, none⟩), .slice Ap1 us.length cp1] w fun v w' => v = longV (longT nodes kids us 0 (-1) 0 0) ∧ Ext w w' := by
  have e0 := Stp.refl w (fun _ => False)
  have hlim := hn.lim
  have hlim2 := hr.lim
  have hlim3 := h1.lim
  refine Fc.enter (n := 49) [(0, .pointer (some ⟨g, 0, none⟩)), (1, .slice Ap1 us.length cp1)] Try.func109 rfl rfl (Nat.le_of_ble_eq_true rfl) (.cons rfl (.cons rfl (.nil _))) ?_
  refine CW.seq ?_
  refine CW.region ?_
  refine WL.assign rfl ?_
  refine WL.assign rfl ?_
  refine WL.assign rfl ?_
  refine WL.nil ?_
  refine CW.seq ?_
  refine CW.region ?_
  refine WL.assign rfl ?_
  refine WL.assign rfl ?_
  refine WL.assign rfl ?_
  refine WL.nil ?_
  refine CW.seq ?_
  refine CW.seq ?_
  refine CW.region ?_
  refine WL.move rfl ?_
  refine WL.len Try.underlying29 rfl ?_
  refine WL.move rfl ?_
  refine WL.nil ?_
  refine CW.block ?_
  refine CW.loop (fun m σ wr0 => ∃ j : Nat, ∃ k : Int, ∃ n : Int, ∃ a : Nat, m = us.length - j ∧ σ = [(0, .pointer (some ⟨g, 0, none⟩)), (7, .int .i64 k), (8, .int .i64 n), (9, .int .i64 (a : Int)), (15, .slice Ap1 us.length cp1), (16, .int .i64 (us.length : Int)), (17, .int .i64 (j : Int))] ∧ (Up w M wr0 M) ∧ (Ext w wr0) ∧ (Ext w wr0) ∧ (j ≤ us.length) ∧ (a < nodes.length) ∧ (longT nodes kids us 0 (-1) 0 0 = longT nodes kids (us.drop j) j k n a)) _ _ (.cons (t := 0) rfl (.cons (t := 7) rfl (.cons (t := 8) rfl (.cons (t := 9) rfl (.cons (t := 15) rfl (.cons (t := 16) rfl (.cons (t := 17) rfl (.nil _)))))))) ⟨0, (-1), 0, 0, rfl, rfl, Up.refl hm, e0, Stp.refl _ _, by omega, h0n, by simp⟩ ?_
  rintro m _ wr0 ⟨j, k, n, a, rfl, rfl, hU1, hE2, hX5, hj, hal, hf⟩
  have hm3 := Up.mb hU1
  refine CW.seq ?_
  refine CW.region ?_
  refine WL.lss rfl rfl ?_
  refine WL.nil ?_
  refine CW.seq ?_
  refine CW.condP rfl (fun hc7 => ?_) (fun hc7 => ?_)
  · refine CW.skip ?_
    refine CW.seq ?_
    refine CW.block ?_
    refine CW.seq ?_
    refine CW.region ?_
    refine WL.move rfl ?_
    have hlt8 : j < us.length := by omega
    obtain ⟨ad9, cs10, hA11, hs12, hat13, hR14⟩ := SlD.get (h1.up hU1) (List.getElem?_eq_getElem hlt8)
    rw [show _ = _ from hR14.1] at hat13
    have hhR14 := hR14.2; simp only [I64] at hhR14
    refine WL.idx es29 rfl rfl hA11 (by omega) (by omega) ?_
    refine WL.load sc3 rfl (hat13.cell 0 _ rfl) ?_
    refine WL.assign rfl ?_
    refine WL.assign rfl ?_
    refine WL.nil ?_
    refine CW.seq ?_
    refine CW.region ?_
    refine WL.move rfl ?_
    refine WL.move rfl ?_
    refine WL.move rfl ?_
    refine WL.call Try.func85 rfl rfl (.cons rfl (.cons rfl (.cons rfl .nil))) (Step_spec _ _ hm3 (hp.up hU1) (hn.up hU1) (hr.up hU1) hal _ (hk a hal)) (fun _ w15 hr16 => ?_)
    obtain ⟨rfl, he17⟩ := hr16
    have u18 := Ext.up he17 hm3
    have e19 := Ext.trans hE2 he17
    have hm20 := Up.mb u18
    cases hfd : (kids a).find? (unitAt nodes (us[j])) with
    | none =>
      show WL _ _ _ _ _ ((_, .tuple #[.int .i64 0, .bool false]) :: _) _
      refine WL.move rfl ?_
      refine WL.extract rfl rfl ?_
      refine WL.extract rfl rfl ?_
      refine WL.assign rfl ?_
      refine WL.assign rfl ?_
      refine WL.nil ?_
      refine CW.seq ?_
      refine CW.seq ?_
      refine CW.region ?_
      refine WL.move rfl ?_
      refine WL.not_ rfl ?_
      refine WL.nil ?_
      refine CW.condT rfl ?_
      refine CW.seq ?_
      refine CW.region ?_
      refine WL.move rfl ?_
      refine WL.move rfl ?_
      refine WL.assign rfl ?_
      refine WL.assign rfl ?_
      refine WL.assign rfl ?_
      refine WL.nil ?_
      refine CW.ret ?_
      refine Ret.three rfl rfl rfl rfl ?_
      exact ⟨by rw [hf, longT_none (by omega) hfd]; rfl, e19⟩
    | some b_ =>
      have hbl : b_ < nodes.length := chain_lt (hk a hal) b_ (List.mem_of_find?_eq_some hfd)
      show WL _ _ _ _ _ ((_, .tuple #[.int .i64 (b_ : Int), .bool true]) :: _) _
      refine WL.move rfl ?_
      refine WL.extract rfl rfl ?_
      refine WL.extract rfl rfl ?_
      refine WL.assign rfl ?_
      refine WL.assign rfl ?_
      refine WL.nil ?_
      refine CW.seq ?_
      refine CW.seq ?_
      refine CW.region ?_
      refine WL.move rfl ?_
      refine WL.not_ rfl ?_
      refine WL.nil ?_
      refine CW.condF rfl ?_
      refine CW.skip ?_
      refine CW.seq ?_
      refine CW.region ?_
      refine WL.move rfl ?_
      refine WL.assign rfl ?_
      refine WL.nil ?_
      refine CW.seq ?_
      refine CW.region ?_
      refine WL.move rfl ?_
      refine WL.move rfl ?_
      refine WL.call Try.func115 rfl rfl (.cons rfl (.cons rfl (.nil))) (trieRule_spec _ _ hm20 (hp.up (Up.trans hU1 u18)) (hn.up (Up.trans hU1 u18)) (hr.up (Up.trans hU1 u18)) hbl) (fun _ w21 hr22 => ?_)
      obtain ⟨rfl, he23⟩ := hr22
      have u24 := Ext.up he23 hm20
      have e25 := Ext.trans e19 he23
      have hm26 := Up.mb u24
      refine WL.assign rfl ?_
      refine WL.nil ?_
      refine CW.seq ?_
      refine CW.region ?_
      refine WL.move rfl ?_
      refine WL.geq rfl rfl ?_
      refine WL.nil ?_
      refine CW.condP rfl (fun hc27 => ?_) (fun hc27 => ?_)
      · refine CW.region ?_
        refine WL.move rfl ?_
        refine WL.move rfl ?_
        refine WL.add rfl rfl (by omega) ?_
        refine WL.assign rfl ?_
        refine WL.assign rfl ?_
        refine WL.nil ?_
        refine CW.region ?_
        refine WL.add rfl rfl (by omega) ?_
        refine WL.move rfl ?_
        refine WL.nil ?_
        refine Loop.again _ _ ?_ ?_ ⟨j + 1, _, _, b_, rfl, rfl, (Up.trans hU1 (Up.trans u18 u24)), e25, (Ext.trans (Ext.trans hX5 he17) he23), by omega, hbl, by rw [hf, longT_some (by omega) hfd hbl, if_pos hc27]⟩
        · omega
        · exact .cons (t := 0) rfl (.cons (t := 7) rfl (.cons (t := 8) rfl (.cons (t := 9) rfl (.cons (t := 15) rfl (.cons (t := 16) rfl (.cons (t := 17) rfl (.nil _)))))))
      · refine CW.skip ?_
        refine CW.region ?_
        refine WL.add rfl rfl (by omega) ?_
        refine WL.move rfl ?_
        refine WL.nil ?_
        refine Loop.again _ _ ?_ ?_ ⟨j + 1, _, _, b_, rfl, rfl, (Up.trans hU1 (Up.trans u18 u24)), e25, (Ext.trans (Ext.trans hX5 he17) he23), by omega, hbl, by rw [hf, longT_some (by omega) hfd hbl, if_neg hc27]⟩
        · omega
        · exact .cons (t := 0) rfl (.cons (t := 7) rfl (.cons (t := 8) rfl (.cons (t := 9) rfl (.cons (t := 15) rfl (.cons (t := 16) rfl (.cons (t := 17) rfl (.nil _)))))))
  · refine CW.exit ?_
    refine CW.seq ?_
    refine CW.region ?_
    refine WL.move rfl ?_
    refine WL.move rfl ?_
    refine WL.move rfl ?_
    refine WL.move rfl ?_
    refine WL.call Try.func116 rfl rfl (.cons rfl (.cons rfl (.nil))) (trieLeaf_spec _ _ hm3 (hp.up hU1) (hn.up hU1) (hr.up hU1) hal) (fun _ w28 hr29 => ?_)
    obtain ⟨rfl, he30⟩ := hr29
    have u31 := Ext.up he30 hm3
    have e32 := Ext.trans hE2 he30
    have hm33 := Up.mb u31
    refine WL.not_ rfl ?_
    refine WL.assign rfl ?_
    refine WL.assign rfl ?_
    refine WL.assign rfl ?_
    refine WL.nil ?_
    refine CW.ret ?_
    refine Ret.three rfl rfl rfl rfl ?_
    exact ⟨by rw [hf, List.drop_of_length_le (by omega), longT_end hal]; rfl, e32⟩
end Go.Proofs.Ytgbajkdomcmblaa
