/- What the functions of package table come to: walks. -/
import Derived.Test.YtgbajkdomcmblaaMachC
namespace Go.Proofs.Ytgbajkdomcmblaa
open Go Go.RowKit Vc
set_option linter.unusedVariables false
set_option linter.unusedSimpArgs false
private theorem mixed : Try.prog.follows .mixedOrders = true := by kernel_rfl
private theorem fo100_0 : fieldOff Try.prog 100 0 = some 0 := by kernel_rfl
private theorem es29 : elemSize Try.prog 29 = some 1 := by kernel_rfl
private theorem es49 : elemSize Try.prog 49 = some 2 := by kernel_rfl
private theorem sc3 : scalar Try.prog 3 = true := by kernel_rfl
private theorem sc29 : scalar Try.prog 29 = true := by kernel_rfl
private theorem ag100 : aggSize Try.prog 100 = some 2 := by kernel_rfl
private theorem ti100 : tinfo Try.prog 100 = some (some (.agg #[.slice none 0 0, .slice none 0 0]), 2, 48) := by kernel_rfl
theorem last_is {x : List Int} (hx : 0 < x.length) (u : Int) {i : Nat} (hi : i < x.length) (he : i = x.length - 1) : (x[i] = u) = (x.getLast? = some u) := by
  subst he
  rw [List.getLast?_eq_getElem?, List.getElem?_eq_getElem hi]
  simp

theorem findP_neg (rs : List PRule) (us : List Int) : findP rs us < 0 ↔ (rs.any fun x => decide (x.inn = us)) = false := by
  unfold findP
  cases h : rs.findIdx? (fun r => decide (r.inn = us)) with
  | none =>
    rw [List.findIdx?_eq_none_iff] at h
    simp only [List.any_eq_false, decide_eq_true_eq]
    exact ⟨fun _ x hx => by simpa using h x hx, fun _ => by decide⟩
  | some i =>
    rw [List.findIdx?_eq_some_iff_getElem] at h
    obtain ⟨hi, hp, _⟩ := h
    refine ⟨fun h2 => by simp at h2; omega, fun h2 => ?_⟩
    rw [List.any_eq_false] at h2
    exact absurd hp (h2 rs[i] (List.getElem_mem hi))
theorem begP_ok {rs : List PRule} {us : List Int} {n : Int} (h0 : 0 < n) (hu : 0 < us.length)
    (h : ¬ findP rs (us.take n.toNat) < 0 ∨ (¬ 1 < n ∧ (rs.any fun r => decide (r.inn.getLast? = some us[0])) = false)) : begP rs us n.toNat = true := by
  unfold begP
  rcases h with h | ⟨h1, h2⟩
  · rw [findP_neg] at h
    simp only [Bool.not_eq_false] at h
    rw [h]; rfl
  · rw [List.head?_eq_getElem?, List.getElem?_eq_getElem hu, h2, decide_eq_true (show n.toNat ≤ 1 by omega)]
    simp
theorem begP_bad {rs : List PRule} {us : List Int} {n : Int} (h0 : 0 < n) (hu : 0 < us.length) (h : findP rs (us.take n.toNat) < 0)
    (h2 : 1 < n ∨ (rs.any fun r => decide (r.inn.getLast? = some us[0])) = true) : begP rs us n.toNat = false := by
  unfold begP
  rw [(findP_neg rs _).1 h, List.head?_eq_getElem?, List.getElem?_eq_getElem hu]
  rcases h2 with h2 | h2
  · rw [decide_eq_false (show ¬ n.toNat ≤ 1 by omega)]; rfl
  · rw [h2]; simp

theorem used1_spec (w : World) (M : MS) (hm : MB w M) {Ap1 : Option Addr} {cp1 : Nat} {xs : List Int} (h1 : SlD IntR 1 w M Ap1 cp1 xs) {Ap3 : Option Addr} {cp3 : Nat} {ys : List Int} (h3 : SlD IntR 1 w M Ap3 cp3 ys) {g : Nat} {u : Int} (hp : At w M ⟨g, 0, none⟩ [.int .i64 u]) (hx0 : 0 < xs.length) :
    Fc Try.prog 106 #[.agg #[.slice Ap1 xs.length cp1, .slice Ap3 ys.length cp3], .pointer (some ⟨g, 0, none⟩)] w fun v w' => v = .bool (decide (xs.getLast? = some u)) ∧ Ext w w' := by
  have e0 := Stp.refl w (fun _ => False)
  have hlim := h1.lim
  refine Fc.enter (n := 14) [(0, .agg #[.slice Ap1 xs.length cp1, .slice Ap3 ys.length cp3]), (1, .pointer (some ⟨g, 0, none⟩))] Try.func106 rfl rfl (Nat.le_of_ble_eq_true rfl) (.cons rfl (.cons rfl (.nil _))) ?_
  refine CW.seq ?_
  refine CW.region ?_
  refine WL.box (cs := [.slice Ap1 xs.length cp1, .slice Ap3 ys.length cp3]) rfl rfl (fun g1 w2 hg3 hb4 he5 => ?_)
  have hn6 := MB.fresh hm hg3
  have u7 := Ext.up he5 hm
  have e8 := Ext.trans e0 he5
  have hm9 := Up.mb u7
  have ha10 := Bk.at_ hb4 hn6
  refine WL.assign rfl ?_
  refine WL.nil ?_
  refine CW.seq ?_
  refine CW.drawn [] (fun w1 w' => w' = w1) mixed (fun w11 ed12 hh13 => ?_)
  have u14 := Ext.up ed12 hm9
  have e15 := Ext.trans e8 ed12
  have hm16 := Up.mb u14
  refine DW.t 0 rfl (by kernel_rfl) (fun _ _ _ h => h) (by rintro _ rfl; exact Rn.fieldAddr fo100_0 rfl) ?_
  refine DW.t 1 rfl (by kernel_rfl) (fun _ _ _ h => h) (by rintro _ rfl; exact Rn.load sc29 rfl ((ha10.up u14).cell 0 _ rfl)) ?_
  refine DW.t 2 rfl (by kernel_rfl) (fun _ _ _ h => h) (by rintro _ rfl; exact Rn.fieldAddr fo100_0 rfl) ?_
  refine DW.t 3 rfl (by kernel_rfl) (fun _ _ _ h => h) (by rintro _ rfl; exact Rn.load sc29 rfl ((ha10.up u14).cell 0 _ rfl)) ?_
  refine DW.t 4 rfl (by kernel_rfl) (fun _ _ _ h => h) (by rintro _ rfl; exact Rn.len Try.underlying29 rfl) ?_
  refine DW.t 5 rfl (by kernel_rfl) (fun _ _ _ h => h) (by rintro _ rfl; exact Rn.sub_ rfl rfl (by omega)) ?_
  have hlt17 : ((xs.length : Int) - 1).toNat < xs.length := by omega
  obtain ⟨ad18, cs19, hA20, hs21, hat22, hR23⟩ := SlD.get (h1.up (Up.trans u7 u14)) (List.getElem?_eq_getElem hlt17)
  rw [show _ = _ from hR23.1] at hat22
  have hhR23 := hR23.2; simp only [I64] at hhR23
  refine DW.t 6 rfl (by kernel_rfl) (fun _ _ _ h => h) (by rintro _ rfl; exact Rn.idx es29 rfl rfl hA20 (by omega) (by omega)) ?_
  refine DW.t 7 rfl (by kernel_rfl) (fun _ _ _ h => h) (by rintro _ rfl; exact Rn.load sc3 rfl (hat22.cell 0 _ rfl)) ?_
  refine DW.t 8 rfl (by kernel_rfl) (fun _ _ _ h => h) (by rintro _ rfl; exact Rn.load sc3 rfl ((hp.up (Up.trans u7 u14)).cell 0 _ rfl)) ?_
  refine DW.t 9 rfl (by kernel_rfl) (fun _ _ _ h => h) (by rintro _ rfl; exact Rn.eql rfl rfl) ?_
  refine DW.t 10 rfl (by kernel_rfl) (fun _ _ _ h => h) (by rintro _ rfl; exact Rn.assign rfl) ?_
  refine DW.done (by kernel_rfl) (fun _ => rfl) ?_
  refine CW.ret ?_
  refine Ret.one rfl rfl ?_
  refine ⟨?_, e15⟩
  have hlh := last_is hx0 u (i := xs.length - 1) (by omega) rfl
  simp [hlh]

theorem indexUsed_spec (w : World) (M : MS) (hm : MB w M) {Ap1 : Option Addr} {cp1 : Nat} {rs : List PRule} (h1 : SlD RuleR 2 w M Ap1 cp1 rs) {g : Nat} {u : Int} (hp : At w M ⟨g, 0, none⟩ [.int .i64 u]) (hne : ∀ x ∈ rs, 0 < x.inn.length) :
    Fc Try.prog 102 #[.slice Ap1 rs.length cp1, .func (.func 106) #[] #[.pointer (some ⟨g, 0, none⟩)]] w fun v w' => (∃ r, v = .int .i64 r ∧ decide (0 ≤ r) = rs.any (fun r => decide (r.inn.getLast? = some u))) ∧ Ext w w' := by
  have e0 := Stp.refl w (fun _ => False)
  have hlim := h1.lim
  refine Fc.enter (n := 19) [(0, .slice Ap1 rs.length cp1), (1, .func (.func 106) #[] #[.pointer (some ⟨g, 0, none⟩)])] Try.func102 rfl rfl (Nat.le_of_ble_eq_true rfl) (.cons rfl (.cons rfl (.nil _))) ?_
  refine CW.seq ?_
  refine CW.region ?_
  refine WL.assign rfl ?_
  refine WL.nil ?_
  refine CW.seq ?_
  refine CW.seq ?_
  refine CW.region ?_
  refine WL.move rfl ?_
  refine WL.len Try.underlying49 rfl ?_
  refine WL.move rfl ?_
  refine WL.nil ?_
  refine CW.block ?_
  refine CW.loop (fun m σ wr0 => ∃ k : Nat, m = rs.length - k ∧ σ = [(0, .slice Ap1 rs.length cp1), (1, .func (.func 106) #[] #[.pointer (some ⟨g, 0, none⟩)]), (7, .int .i64 (rs.length : Int)), (8, .int .i64 (k : Int))] ∧ (Up w M wr0 M) ∧ (Ext w wr0) ∧ (Ext w wr0) ∧ (k ≤ rs.length) ∧ ((rs.take k).any (fun r => decide (r.inn.getLast? = some u)) = false)) _ _ (.cons (t := 0) rfl (.cons (t := 1) rfl (.cons (t := 7) rfl (.cons (t := 8) rfl (.nil _))))) ⟨0, rfl, rfl, Up.refl hm, e0, Stp.refl _ _, by omega, by simp⟩ ?_
  rintro m _ wr0 ⟨k, rfl, rfl, hU1, hE2, hX5, hk, hf⟩
  have hm3 := Up.mb hU1
  refine CW.seq ?_
  refine CW.region ?_
  refine WL.lss rfl rfl ?_
  refine WL.nil ?_
  refine CW.seq ?_
  refine CW.condP rfl (fun hc7 => ?_) (fun hc7 => ?_)
  · refine CW.skip ?_
    refine CW.seq ?_
    refine CW.block ?_
    refine CW.seq ?_
    refine CW.region ?_
    refine WL.move rfl ?_
    refine WL.assign rfl ?_
    refine WL.nil ?_
    refine CW.seq ?_
    refine CW.region ?_
    refine WL.move rfl ?_
    refine WL.move rfl ?_
    refine WL.move rfl ?_
    have hlt8 : k < rs.length := by omega
    obtain ⟨ad9, cs10, hA11, hs12, hat13, hR14⟩ := SlD.get (h1.up hU1) (List.getElem?_eq_getElem hlt8)
    obtain ⟨_, _, hx19, ⟨A15, c16, rfl, hD20⟩, ⟨A17, c18, rfl, hD21⟩⟩ := hR14
    rw [hx19] at hat13
    have hl22 := SlD.lim hD20
    have hl23 := SlD.lim hD21
    refine WL.idx es49 rfl rfl hA11 (by omega) (by omega) ?_
    refine WL.loadAgg (cs := [.slice A15 (rs[k].inn.length) c16, .slice A17 (rs[k].out.length) c18]) ag100 rfl hat13 ?_
    refine WL.callv rfl Try.func106 rfl rfl (.cons rfl (.nil)) (used1_spec _ _ hm3 hD20 hD21 (hp.up hU1) (hne _ (List.getElem_mem (by omega)))) (fun _ w24 hr25 => ?_)
    obtain ⟨rfl, he26⟩ := hr25
    have u27 := Ext.up he26 hm3
    have e28 := Ext.trans hE2 he26
    have hm29 := Up.mb u27
    refine WL.nil ?_
    refine CW.condP rfl (fun hc30 => ?_) (fun hc30 => ?_)
    · refine CW.seq ?_
      refine CW.region ?_
      refine WL.move rfl ?_
      refine WL.assign rfl ?_
      refine WL.nil ?_
      refine CW.ret ?_
      refine Ret.one rfl rfl ?_
      exact ⟨⟨_, rfl, by rw [List.any_eq_true.2 ⟨rs[k], List.getElem_mem (by omega), decide_eq_true hc30⟩]; simp⟩, e28⟩
    · refine CW.skip ?_
      refine CW.region ?_
      refine WL.add rfl rfl (by omega) ?_
      refine WL.move rfl ?_
      refine WL.nil ?_
      refine Loop.again _ _ ?_ ?_ ⟨k + 1, rfl, rfl, (Up.trans hU1 u27), e28, (Ext.trans hX5 he26), by omega, by rw [any_next (show k < rs.length by omega), hf]; simp [hc30]⟩
      · omega
      · exact .cons (t := 0) rfl (.cons (t := 1) rfl (.cons (t := 7) rfl (.cons (t := 8) rfl (.nil _))))
  · refine CW.exit ?_
    refine CW.seq ?_
    refine CW.region ?_
    refine WL.assign rfl ?_
    refine WL.nil ?_
    refine CW.ret ?_
    refine Ret.one rfl rfl ?_
    exact ⟨⟨_, rfl, by rw [← List.take_of_length_le (l := rs) (i := k) (by omega), hf]; simp⟩, hE2⟩

theorem containsUsed_spec (w : World) (M : MS) (hm : MB w M) {Ap1 : Option Addr} {cp1 : Nat} {rs : List PRule} (h1 : SlD RuleR 2 w M Ap1 cp1 rs) {g : Nat} {u : Int} (hp : At w M ⟨g, 0, none⟩ [.int .i64 u]) (hne : ∀ x ∈ rs, 0 < x.inn.length) :
    Fc Try.prog 105 #[.slice Ap1 rs.length cp1, .func (.func 106) #[] #[.pointer (some ⟨g, 0, none⟩)]] w fun v w' => v = .bool (rs.any (fun r => decide (r.inn.getLast? = some u))) ∧ Ext w w' := by
  have e0 := Stp.refl w (fun _ => False)
  have hlim := h1.lim
  refine Fc.enter (n := 9) [(0, .slice Ap1 rs.length cp1), (1, .func (.func 106) #[] #[.pointer (some ⟨g, 0, none⟩)])] Try.func105 rfl rfl (Nat.le_of_ble_eq_true rfl) (.cons rfl (.cons rfl (.nil _))) ?_
  refine CW.seq ?_
  refine CW.region ?_
  refine WL.assign rfl ?_
  refine WL.nil ?_
  refine CW.seq ?_
  refine CW.region ?_
  refine WL.move rfl ?_
  refine WL.move rfl ?_
  refine WL.call Try.func102 rfl rfl (.cons rfl (.cons rfl (.nil))) (indexUsed_spec _ _ hm h1 hp hne) (fun _ w1 hr2 => ?_)
  obtain ⟨⟨r, rfl, hr_⟩, he3⟩ := hr2
  have u4 := Ext.up he3 hm
  have e5 := Ext.trans e0 he3
  have hm6 := Up.mb u4
  refine WL.geq rfl rfl ?_
  refine WL.assign rfl ?_
  refine WL.nil ?_
  refine CW.ret ?_
  refine Ret.one rfl rfl ?_
  exact ⟨congrArg Value.bool hr_, e5⟩

theorem used_spec (w : World) (M : MS) (hm : MB w M) {Ap1 : Option Addr} {cp1 : Nat} {rs : List PRule} (h1 : SlD RuleR 2 w M Ap1 cp1 rs) (u : Int) (hne : ∀ x ∈ rs, 0 < x.inn.length) :
    Fc Try.prog 87 #[.slice Ap1 rs.length cp1, .int .i64 u] w fun v w' => v = .bool (rs.any (fun r => decide (r.inn.getLast? = some u))) ∧ Ext w w' := by
  have e0 := Stp.refl w (fun _ => False)
  have hlim := h1.lim
  refine Fc.enter (n := 8) [(0, .slice Ap1 rs.length cp1), (1, .int .i64 u)] Try.func87 rfl rfl (Nat.le_of_ble_eq_true rfl) (.cons rfl (.cons rfl (.nil _))) ?_
  refine CW.seq ?_
  refine CW.region ?_
  refine WL.box (cs := [.int .i64 u]) rfl rfl (fun g1 w2 hg3 hb4 he5 => ?_)
  have hn6 := MB.fresh hm hg3
  have u7 := Ext.up he5 hm
  have e8 := Ext.trans e0 he5
  have hm9 := Up.mb u7
  have ha10 := Bk.at_ hb4 hn6
  refine WL.assign rfl ?_
  refine WL.nil ?_
  refine CW.seq ?_
  refine CW.region ?_
  refine WL.move rfl ?_
  refine WL.makeFunc (.cons rfl (.nil)) ?_
  refine WL.call Try.func105 rfl rfl (.cons rfl (.cons rfl (.nil))) (containsUsed_spec _ _ hm9 (h1.up u7) ha10 hne) (fun _ w11 hr12 => ?_)
  obtain ⟨rfl, he13⟩ := hr12
  have u14 := Ext.up he13 hm9
  have e15 := Ext.trans e8 he13
  have hm16 := Up.mb u14
  refine WL.assign rfl ?_
  refine WL.nil ?_
  refine CW.ret ?_
  refine Ret.one rfl rfl ?_
  exact ⟨rfl, e15⟩

theorem closed_spec (w : World) (M : MS) (hm : MB w M) {Ap1 : Option Addr} {cp1 : Nat} {rs : List PRule} (h1 : SlD RuleR 2 w M Ap1 cp1 rs) (hne : ∀ x ∈ rs, 0 < x.inn.length) :
    Fc Try.prog 63 #[.slice Ap1 rs.length cp1] w fun v w' => v = .bool (closedP rs) ∧ Ext w w' := by
  have e0 := Stp.refl w (fun _ => False)
  have hlim := h1.lim
  refine Fc.enter (n := 40) [(0, .slice Ap1 rs.length cp1)] Try.func63 rfl rfl (Nat.le_of_ble_eq_true rfl) (.cons rfl (.nil _)) ?_
  refine CW.seq ?_
  refine CW.region ?_
  refine WL.assign rfl ?_
  refine WL.nil ?_
  refine CW.seq ?_
  refine CW.seq ?_
  refine CW.region ?_
  refine WL.move rfl ?_
  refine WL.len Try.underlying49 rfl ?_
  refine WL.move rfl ?_
  refine WL.nil ?_
  refine CW.block ?_
  refine CW.loop (fun m σ wr0 => ∃ k : Nat, m = rs.length - k ∧ σ = [(0, .slice Ap1 rs.length cp1), (6, .slice Ap1 rs.length cp1), (7, .int .i64 (rs.length : Int)), (8, .int .i64 (k : Int))] ∧ (Up w M wr0 M) ∧ (Ext w wr0) ∧ (Ext w wr0) ∧ (k ≤ rs.length) ∧ ((rs.take k).all (fun r => (List.range r.inn.length).all fun n => decide (n = 0) || begP rs r.inn n) = true)) _ _ (.cons (t := 0) rfl (.cons (t := 6) rfl (.cons (t := 7) rfl (.cons (t := 8) rfl (.nil _))))) ⟨0, rfl, rfl, Up.refl hm, e0, Stp.refl _ _, by omega, by simp⟩ ?_
  rintro m _ wr0 ⟨k, rfl, rfl, hU1, hE2, hX5, hk, hf⟩
  have hm3 := Up.mb hU1
  refine CW.seq ?_
  refine CW.region ?_
  refine WL.lss rfl rfl ?_
  refine WL.nil ?_
  refine CW.seq ?_
  refine CW.condP rfl (fun hc7 => ?_) (fun hc7 => ?_)
  · have hkl : k < rs.length := by omega
    have hk0 := hne rs[k] (List.getElem_mem hkl)
    refine CW.skip ?_
    refine CW.seq ?_
    refine CW.block ?_
    refine CW.seq ?_
    refine CW.region ?_
    have hlt8 : k < rs.length := by omega
    obtain ⟨ad9, cs10, hA11, hs12, hat13, hR14⟩ := SlD.get (h1.up hU1) (List.getElem?_eq_getElem hlt8)
    obtain ⟨_, _, hx19, ⟨A15, c16, rfl, hD20⟩, ⟨A17, c18, rfl, hD21⟩⟩ := hR14
    rw [hx19] at hat13
    have hl22 := SlD.lim hD20
    have hl23 := SlD.lim hD21
    refine WL.idx es49 rfl rfl hA11 (by omega) (by omega) ?_
    refine WL.loadAgg (cs := [.slice A15 (rs[k].inn.length) c16, .slice A17 (rs[k].out.length) c18]) ag100 rfl hat13 ?_
    refine WL.alloc (cs := [.slice none 0 0, .slice none 0 0]) ti100 rfl (fun g24 w25 hg26 hb27 he28 => ?_)
    have u29 := Ext.up he28 hm3
    have e30 := Ext.trans hE2 he28
    have hm31 := Up.mb u29
    have hb35 := hb27
    refine WL.storeAll (vs := [.slice A15 (rs[k].inn.length) c16, .slice A17 (rs[k].out.length) c18]) (by rw [ti100]; rfl) rfl rfl (by simp [Value.oneCell']) hb35 rfl (fun w32 hb33 hs34 => ?_)
    have he36 : Ext wr0 w32 := Stp.trans he28 hs34 (fun k hk => .inr (by rw [hk]; exact hg26))
    have hn37 := MB.fresh hm3 hg26
    have u38 := Ext.up he36 hm3
    have e39 := Ext.trans hE2 he36
    have hm40 := Up.mb u38
    have ha41 := Bk.at_ hb33 hn37
    refine WL.nil ?_
    refine CW.seq ?_
    refine CW.region ?_
    refine WL.fieldAddr fo100_0 rfl ?_
    refine WL.load sc29 rfl (ha41.cell 0 _ rfl) ?_
    refine WL.len Try.underlying29 rfl ?_
    refine WL.sub_ rfl rfl (by omega) ?_
    refine WL.assign rfl ?_
    refine WL.nil ?_
    refine CW.block ?_
    refine CW.loop (fun m σ wr1 => ∃ n : Int, m = n.toNat ∧ σ = [(0, .slice Ap1 rs.length cp1), (4, .pointer (some ⟨g24, 0, none⟩)), (5, .int .i64 n), (6, .slice Ap1 rs.length cp1), (7, .int .i64 (rs.length : Int)), (8, .int .i64 (k : Int))] ∧ (Up w32 M wr1 M) ∧ (Ext w wr1) ∧ (Ext w32 wr1) ∧ (0 ≤ n) ∧ (n ≤ (rs[k].inn.length : Int) - 1) ∧ (∀ m : Nat, n < m → m < rs[k].inn.length → begP rs rs[k].inn m = true)) _ _ (.cons (t := 0) rfl (.cons (t := 4) rfl (.cons (t := 5) rfl (.cons (t := 6) rfl (.cons (t := 7) rfl (.cons (t := 8) rfl (.nil _))))))) ⟨(rs[k].inn.length : Int) - 1, rfl, rfl, Up.refl hm40, e39, Stp.refl _ _, by omega, by omega, by intro m h1 h2; omega⟩ ?_
    rintro m _ wr1 ⟨n, rfl, rfl, hU42, hE43, hX46, hn0, hn, hg⟩
    have hm44 := Up.mb hU42
    refine CW.seq ?_
    refine CW.seq ?_
    refine CW.region ?_
    refine WL.move rfl ?_
    refine WL.gtr rfl rfl ?_
    refine WL.nil ?_
    refine CW.condP rfl (fun hc48 => ?_) (fun hc48 => ?_)
    · refine CW.skip ?_
      refine CW.seq ?_
      refine CW.block ?_
      refine CW.seq ?_
      refine CW.region ?_
      refine WL.move rfl ?_
      refine WL.fieldAddr fo100_0 rfl ?_
      refine WL.load sc29 rfl ((ha41.up hU42).cell 0 _ rfl) ?_
      refine WL.move rfl ?_
      obtain ⟨A49, c50, hRn51, hD52, hl53⟩ := SlD.cutH (hD20.up (Up.trans u38 hU42)) (i := n) (by omega) (by omega)
      refine WL.rn (hRn51 es29 rfl rfl) ?_
      refine WL.call Try.func86 rfl rfl (.cons rfl (.cons rfl (.nil))) (Find_spec _ _ hm44 (h1.up (Up.trans hU1 (Up.trans u38 hU42))) hD52) (fun _ w54 hr55 => ?_)
      obtain ⟨rfl, he56⟩ := hr55
      have u57 := Ext.up he56 hm44
      have e58 := Ext.trans hE43 he56
      have hm59 := Up.mb u57
      refine WL.lss rfl rfl ?_
      refine WL.move rfl ?_
      by_cases hg60 : findP rs ((rs[k].inn).take (n).toNat) < 0
      · refine WL.gtake rfl rfl (decide_eq_true hg60) ?_
        refine WL.move rfl ?_
        refine WL.gtake rfl rfl (decide_eq_true hg60) ?_
        refine WL.gtr rfl rfl ?_
        refine WL.gtake rfl rfl (decide_eq_true hg60) ?_
        refine WL.move rfl ?_
        by_cases hg61 : 1 < n
        · refine WL.gskip rfl rfl (decide_eq_true hg61) ?_
          refine WL.gskip rfl rfl (decide_eq_true hg61) ?_
          refine WL.gskip rfl rfl (decide_eq_true hg61) ?_
          refine WL.gskip rfl rfl (decide_eq_true hg61) ?_
          refine WL.gskip rfl rfl (decide_eq_true hg61) ?_
          refine WL.gskip rfl rfl (decide_eq_true hg61) ?_
          refine WL.gtake rfl rfl (decide_eq_true hg60) ?_
          refine WL.pickT (congrArg (fun b => some (Value.bool b)) (decide_eq_true hg61)) rfl ?_
          refine WL.pickT (congrArg (fun b => some (Value.bool b)) (decide_eq_true hg60)) rfl ?_
          refine WL.nil ?_
          refine CW.condT rfl ?_
          refine CW.seq ?_
          refine CW.region ?_
          refine WL.assign rfl ?_
          refine WL.nil ?_
          refine CW.ret ?_
          refine Ret.one rfl rfl ?_
          refine ⟨?_, e58⟩
          have hbk := begP_bad (rs := rs) (us := rs[k].inn) (n := n) (by omega) hk0 hg60 (.inl (by omega))
          have hcb : closedP rs = false := by
            unfold closedP
            refine all_bad (i := k) (by omega) ?_
            refine all_bad (i := n.toNat) (by simp; omega) ?_
            simp only [List.getElem_range, hbk, Bool.or_false]
            exact decide_eq_false (by omega)
          rw [hcb]
        · refine WL.gtake rfl rfl (decide_eq_false hg61) ?_
          refine WL.move rfl ?_
          refine WL.gtake rfl rfl (decide_eq_false hg61) ?_
          refine WL.fieldAddr fo100_0 rfl ?_
          refine WL.gtake rfl rfl (decide_eq_false hg61) ?_
          refine WL.load sc29 rfl ((ha41.up (Up.trans hU42 u57)).cell 0 _ rfl) ?_
          refine WL.gtake rfl rfl (decide_eq_false hg61) ?_
          have hlt62 : 0 < (rs[k].inn).length := by omega
          obtain ⟨ad63, cs64, hA65, hs66, hat67, hR68⟩ := SlD.get (hD20.up (Up.trans u38 (Up.trans hU42 u57))) (List.getElem?_eq_getElem hlt62)
          rw [show _ = _ from hR68.1] at hat67
          have hhR68 := hR68.2; simp only [I64] at hhR68
          refine WL.idx es29 rfl rfl hA65 (by omega) (by omega) ?_
          refine WL.gtake rfl rfl (decide_eq_false hg61) ?_
          refine WL.load sc3 rfl (hat67.cell 0 _ rfl) ?_
          refine WL.gtake rfl rfl (decide_eq_false hg61) ?_
          refine WL.call Try.func87 rfl rfl (.cons rfl (.cons rfl (.nil))) (used_spec _ _ hm59 (h1.up (Up.trans hU1 (Up.trans u38 (Up.trans hU42 u57)))) _ hne) (fun _ w69 hr70 => ?_)
          obtain ⟨rfl, he71⟩ := hr70
          have u72 := Ext.up he71 hm59
          have e73 := Ext.trans e58 he71
          have hm74 := Up.mb u72
          refine WL.gtake rfl rfl (decide_eq_true hg60) ?_
          refine WL.pickF (congrArg (fun b => some (Value.bool b)) (decide_eq_false hg61)) rfl ?_
          refine WL.pickT (congrArg (fun b => some (Value.bool b)) (decide_eq_true hg60)) rfl ?_
          refine WL.nil ?_
          refine CW.condB rfl (fun hc75 => ?_) (fun hc75 => ?_)
          · refine CW.seq ?_
            refine CW.region ?_
            refine WL.assign rfl ?_
            refine WL.nil ?_
            refine CW.ret ?_
            refine Ret.one rfl rfl ?_
            refine ⟨?_, e73⟩
            have hbk := begP_bad (rs := rs) (us := rs[k].inn) (n := n) (by omega) hk0 hg60 (.inr hc75)
            have hcb : closedP rs = false := by
              unfold closedP
              refine all_bad (i := k) (by omega) ?_
              refine all_bad (i := n.toNat) (by simp; omega) ?_
              simp only [List.getElem_range, hbk, Bool.or_false]
              exact decide_eq_false (by omega)
            rw [hcb]
          · refine CW.skip ?_
            refine CW.region ?_
            refine WL.move rfl ?_
            refine WL.sub_ rfl rfl (by omega) ?_
            refine WL.assign rfl ?_
            refine WL.nil ?_
            have hbk := begP_ok (rs := rs) (us := rs[k].inn) (n := n) (by omega) hk0 (.inr ⟨by omega, hc75⟩)
            refine Loop.again _ _ ?_ ?_ ⟨n - 1, rfl, rfl, (Up.trans hU42 (Up.trans u57 u72)), e73, (Ext.trans (Ext.trans hX46 he56) he71), by omega, by omega, fun m h1 h2 => (Classical.em (n < m)).elim (fun hmn => hg m hmn h2) (fun hmn => by rw [show m = n.toNat by omega]; exact hbk)⟩
            · omega
            · exact .cons (t := 0) rfl (.cons (t := 4) rfl (.cons (t := 5) rfl (.cons (t := 6) rfl (.cons (t := 7) rfl (.cons (t := 8) rfl (.nil _))))))
      · refine WL.gskip rfl rfl (decide_eq_false hg60) ?_
        refine WL.gskip rfl rfl (decide_eq_false hg60) ?_
        refine WL.gskip rfl rfl (decide_eq_false hg60) ?_
        refine WL.uskip rfl rfl ?_
        refine WL.uskip rfl rfl ?_
        refine WL.uskip rfl rfl ?_
        refine WL.uskip rfl rfl ?_
        refine WL.uskip rfl rfl ?_
        refine WL.uskip rfl rfl ?_
        refine WL.gskip rfl rfl (decide_eq_false hg60) ?_
        refine WL.pickF (congrArg (fun b => some (Value.bool b)) (decide_eq_false hg60)) rfl ?_
        refine WL.nil ?_
        refine CW.condF rfl ?_
        refine CW.skip ?_
        refine CW.region ?_
        refine WL.move rfl ?_
        refine WL.sub_ rfl rfl (by omega) ?_
        refine WL.assign rfl ?_
        refine WL.nil ?_
        have hbk := begP_ok (rs := rs) (us := rs[k].inn) (n := n) (by omega) hk0 (.inl hg60)
        refine Loop.again _ _ ?_ ?_ ⟨n - 1, rfl, rfl, (Up.trans hU42 u57), e58, (Ext.trans hX46 he56), by omega, by omega, fun m h1 h2 => (Classical.em (n < m)).elim (fun hmn => hg m hmn h2) (fun hmn => by rw [show m = n.toNat by omega]; exact hbk)⟩
        · omega
        · exact .cons (t := 0) rfl (.cons (t := 4) rfl (.cons (t := 5) rfl (.cons (t := 6) rfl (.cons (t := 7) rfl (.cons (t := 8) rfl (.nil _))))))
    · refine CW.exit ?_
      refine CW.region ?_
      refine WL.add rfl rfl (by omega) ?_
      refine WL.move rfl ?_
      refine WL.nil ?_
      have hall : (fun r => (List.range r.inn.length).all fun n => decide (n = 0) || begP rs r.inn n) rs[k] = true := by
        simp only [List.all_eq_true, List.mem_range]
        intro m hm_
        by_cases hm0 : m = 0
        · simp [hm0]
        · simp [hg m (by omega) hm_]
      refine Loop.again _ _ ?_ ?_ ⟨k + 1, rfl, rfl, (Up.trans hU1 (Up.trans u38 hU42)), hE43, (Ext.trans (Ext.trans hX5 he36) hX46), by omega, all_next (by omega) hf hall⟩
      · omega
      · exact .cons (t := 0) rfl (.cons (t := 6) rfl (.cons (t := 7) rfl (.cons (t := 8) rfl (.nil _))))
  · refine CW.exit ?_
    refine CW.seq ?_
    refine CW.region ?_
    refine WL.assign rfl ?_
    refine WL.nil ?_
    refine CW.ret ?_
    refine Ret.one rfl rfl ?_
    refine ⟨?_, hE2⟩
    exact congrArg Value.bool (all_end (by omega) hf).symm
end Go.Proofs.Ytgbajkdomcmblaa
