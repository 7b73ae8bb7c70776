/- What the functions of package viet come to, and those of the law beside it: walks. -/
import Derived.Test.YtgbajkdomcmblaaVietA
namespace Go.Proofs.Ytgbajkdomcmblaa
open Go Go.RowKit Vc
set_option linter.unusedVariables false
set_option linter.unusedSimpArgs false
attribute [local irreducible] vietAll
private theorem find_start {α : Type} {p : α → Bool} {l : List α} : (l.take 0).find? p = none := by simp
theorem und26f : Try.prog.underlying 26 = some (.struct (Try.prog.fieldsOf 26)) := by
  rw [Program.fieldsOf, Try.underlying26]
theorem hp26 : Try.prog.stoodInHeld 26 = false := by kernel_rfl
theorem hm26 : Try.prog.eqGuardType Try.prog.depth 26 = false := by kernel_rfl
theorem eqs26 {n : Nat} {σ : St} {w : World} {d u ty : Nat} {pos : String} {aft : Array Edge} {x y : Operand} {a b : Int} {c e c2 e2 : Nat} (hx : ev σ x = some (.agg #[.int .i64 a, .complex .f64 c e])) (hy : ev σ y = some (.agg #[.int .i64 b, .complex .f64 c2 e2])) : Rn Try.prog n σ (⟨some d, .binOp .eql 26 x y u, ty, pos, aft, none⟩ : Oper) w (.bool (decide (a = b) && (fe c c2 && fe e e2))) := fun q ha => by
  have h : (Op.equalIn 10000 26 (.agg #[.int .i64 a, .complex .f64 c e]) (.agg #[.int .i64 b, .complex .f64 c2 e2])).run Try.prog w = .ok (decide (a = b) && (fe c c2 && fe e e2)) w := by
    rw [run_equalIn_struct w 9999 26 _ _ und26f hp26]
    have h1 := run_equalIn_int (P := Try.prog) w 9998 3 .i64 .i64 a b Try.underlying3
    have h2 : ∀ d, (Op.equalIn (d + 1) 24 (.complex .f64 c e) (.complex .f64 c2 e2)).run Try.prog w = .ok (fe c c2 && fe e e2) w := fun d => by
      simp [Op.equalIn, run_underlying Try.underlying24, Op.floatEq, fe]
    have h2 := h2 9998
    simp only [Nat.reduceAdd] at h1 h2
    simp [Program.fieldsOf, Try.underlying26, Op.eqFields, part, h1, h2]
    by_cases hab : a = b <;> cases fe c c2 <;> cases fe e e2 <;> simp [hab]
  simp [execOp, ha.ev hx, ha.ev hy, run_eqGuard_agg, run_eql_struct, h]
theorem nes26 {n : Nat} {σ : St} {w : World} {d u ty : Nat} {pos : String} {aft : Array Edge} {x y : Operand} {a b : Int} {c e c2 e2 : Nat} (hx : ev σ x = some (.agg #[.int .i64 a, .complex .f64 c e])) (hy : ev σ y = some (.agg #[.int .i64 b, .complex .f64 c2 e2])) : Rn Try.prog n σ (⟨some d, .binOp .neq 26 x y u, ty, pos, aft, none⟩ : Oper) w (.bool (!(decide (a = b) && (fe c c2 && fe e e2)))) := fun q ha => by
  have h : (Op.equalIn 10000 26 (.agg #[.int .i64 a, .complex .f64 c e]) (.agg #[.int .i64 b, .complex .f64 c2 e2])).run Try.prog w = .ok (decide (a = b) && (fe c c2 && fe e e2)) w := by
    rw [run_equalIn_struct w 9999 26 _ _ und26f hp26]
    have h1 := run_equalIn_int (P := Try.prog) w 9998 3 .i64 .i64 a b Try.underlying3
    have h2 : ∀ d, (Op.equalIn (d + 1) 24 (.complex .f64 c e) (.complex .f64 c2 e2)).run Try.prog w = .ok (fe c c2 && fe e e2) w := fun d => by
      simp [Op.equalIn, run_underlying Try.underlying24, Op.floatEq, fe]
    have h2 := h2 9998
    simp only [Nat.reduceAdd] at h1 h2
    simp [Program.fieldsOf, Try.underlying26, Op.eqFields, part, h1, h2]
    by_cases hab : a = b <;> cases fe c c2 <;> cases fe e e2 <;> simp [hab]
  simp [execOp, ha.ev hx, ha.ev hy, run_eqGuard_agg, run_neq_struct, h]
private theorem fo26_0 : fieldOff Try.prog 26 0 = some 0 := by kernel_rfl
private theorem fo26_1 : fieldOff Try.prog 26 1 = some 1 := by kernel_rfl
private theorem fo92_0 : fieldOff Try.prog 92 0 = some 0 := by kernel_rfl
private theorem fo92_1 : fieldOff Try.prog 92 1 = some 1 := by kernel_rfl
private theorem fo92_2 : fieldOff Try.prog 92 2 = some 2 := by kernel_rfl
private theorem es29 : elemSize Try.prog 29 = some 1 := by kernel_rfl
private theorem es38 : elemSize Try.prog 38 = some 2 := by kernel_rfl
private theorem es89 : elemSize Try.prog 89 = some 3 := by kernel_rfl
private theorem sc3 : scalar Try.prog 3 = true := by kernel_rfl
private theorem sc24 : scalar Try.prog 24 = true := by kernel_rfl
private theorem sc29 : scalar Try.prog 29 = true := by kernel_rfl
private theorem ag26 : aggSize Try.prog 26 = some 2 := by kernel_rfl
private theorem ag92 : aggSize Try.prog 92 = some 3 := by kernel_rfl
private theorem ti3 : tinfo Try.prog 3 = some (some (.int .i64 0), 1, 8) := by kernel_rfl
private theorem ti24 : tinfo Try.prog 24 = some (some (.complex .f64 0 0), 1, 16) := by kernel_rfl
private theorem ti26 : tinfo Try.prog 26 = some (some (.agg #[.int .i64 0, .complex .f64 0 0]), 2, 24) := by kernel_rfl
private theorem ti92 : tinfo Try.prog 92 = some (some (.agg #[.int .i64 0, .int .i64 0, .slice none 0 0]), 3, 40) := by kernel_rfl
def CxR : ER (Nat × Nat) := fun _ _ cs x => cs = [.complex .f64 x.1 x.2]
instance : Stable CxR := ⟨fun h _ => h, fun h u hu => by rw [h] at hu; simp at hu; subst hu; rfl⟩
def markVals : List (Nat × Nat) := [(4607182418800017408, 0), (4611686018427387904, 0), (4613937818241073152, 0), (0, 4607182418800017408), (0, 4611686018427387904), (0, 4613937818241073152), (0, 4616189618054758400), (0, 4617315517961601024)]
theorem split7871 : splitV (vietAll.find? (splitP 7871)) = .tuple #[.agg #[.int .i64 101, .complex .f64 4611686018427387904 4611686018427387904], .bool true] := by kernel_rfl
theorem join69 : joinV (vietAll.find? (joinP 69 4611686018427387904 4611686018427387904)) = .tuple #[.int .i64 7870, .bool true] := by kernel_rfl
theorem AddR_det {t : Lt} {x y r s : Nat} {v : Value} (h : AddR t x y v) (hc : clash t x y = false) (h1 : FloatKind.f64.format.add t.re x = some r) (h2 : FloatKind.f64.format.add t.im y = some s) :
    v = if J t.b r s = true then .tuple #[.agg #[.int .i64 t.b, .complex .f64 r s], .bool true] else .tuple #[.agg t.cells.toArray, .bool false] := by
  unfold AddR at h
  rw [if_neg (by rw [hc]; simp)] at h
  obtain ⟨r', s', h3, h4, rfl⟩ := h
  have e1 : r' = r := by rcases h3 with h3 | ⟨h3, _⟩ <;> rw [h1] at h3 <;> cases h3; rfl
  have e2 : s' = s := by rcases h4 with h4 | ⟨h4, _⟩ <;> rw [h2] at h4 <;> cases h4; rfl
  subst e1; subst e2; rfl
theorem add1 {v : Value} (h : AddR ⟨117, 0, 0⟩ 4613937818241073152 0 v) : v = .tuple #[.agg #[.int .i64 117, .complex .f64 4613937818241073152 0], .bool true] := by
  rw [AddR_det h (r := 4613937818241073152) (s := 0) (by kernel_rfl) (by kernel_rfl) (by kernel_rfl), if_pos (by kernel_rfl)]
theorem add2 {v : Value} (h : AddR ⟨117, 4613937818241073152, 0⟩ 4607182418800017408 0 v) : v = .tuple #[.agg #[.int .i64 117, .complex .f64 4613937818241073152 0], .bool false] := by
  unfold AddR at h
  rw [if_pos (by kernel_rfl)] at h
  exact h

theorem Split_spec (w : World) (M : MS) (hm : MB w M) (a : Int) :
    Fc Try.prog 57 #[.int .i64 a] w fun v w' => v = splitV (vietAll.find? (splitP a)) ∧ Ext w w' := by
  have e0 := Stp.refl w (fun _ => False)
  have hvl := vietAll_len
  refine Fc.enter (n := 28) [(0, .int .i64 a)] Try.func57 rfl rfl (Nat.le_of_ble_eq_true rfl) (.cons rfl (.nil _)) ?_
  refine CW.seq ?_
  refine CW.region ?_
  refine WL.alloc (cs := [.int .i64 0, .complex .f64 0 0]) ti26 rfl (fun g1 w2 hg3 hb4 he5 => ?_)
  have u6 := Ext.up he5 hm
  have e7 := Ext.trans e0 he5
  have hm8 := Up.mb u6
  refine WL.assign rfl ?_
  refine WL.nil ?_
  refine CW.seq ?_
  refine CW.region ?_
  refine WL.call Try.func22 rfl rfl .nil (All_spec _ _ hm8) (fun _ w17 hr18 => ?_)
  obtain ⟨_, _, rfl, h1, h2, he19⟩ := hr18
  obtain ⟨A11, c12, rfl, hL15⟩ := Sl.map h1
  obtain ⟨A13, c14, rfl, hC16⟩ := Sl.map h2
  have u20 := Ext.up he19 hm8
  have e21 := Ext.trans e7 he19
  have hm22 := Up.mb u20
  refine WL.move rfl ?_
  refine WL.extract rfl rfl ?_
  refine WL.extract rfl rfl ?_
  refine WL.assign rfl ?_
  refine WL.assign rfl ?_
  refine WL.nil ?_
  refine CW.seq ?_
  refine CW.seq ?_
  refine CW.region ?_
  refine WL.move rfl ?_
  refine WL.len Try.underlying29 rfl ?_
  refine WL.move rfl ?_
  refine WL.nil ?_
  refine CW.block ?_
  refine CW.loop (fun m σ wr0 => ∃ j : Nat, m = vietAll.length - j ∧ σ = [(0, .int .i64 a), (2, .pointer (some ⟨g1, 0, none⟩)), (4, .slice A11 vietAll.length c12), (12, .slice A13 vietAll.length c14), (13, .int .i64 (vietAll.length : Int)), (14, .int .i64 (j : Int))] ∧ (Up w17 M wr0 M) ∧ (Ext w wr0) ∧ (Ext w17 wr0) ∧ (j ≤ vietAll.length) ∧ ((vietAll.take j).find? (splitP a) = none)) _ _ (.cons (t := 0) rfl (.cons (t := 2) rfl (.cons (t := 4) rfl (.cons (t := 12) rfl (.cons (t := 13) rfl (.cons (t := 14) rfl (.nil _))))))) ⟨0, rfl, rfl, Up.refl hm22, e21, Stp.refl _ _, by omega, find_start⟩ ?_
  rintro m _ wr0 ⟨j, rfl, rfl, hU23, hE24, hX27, hj, hf⟩
  have hm25 := Up.mb hU23
  refine CW.seq ?_
  refine CW.region ?_
  refine WL.lss rfl rfl ?_
  refine WL.nil ?_
  refine CW.seq ?_
  refine CW.condP rfl (fun hc28 => ?_) (fun hc28 => ?_)
  · refine CW.skip ?_
    refine CW.seq ?_
    refine CW.block ?_
    refine CW.seq ?_
    refine CW.region ?_
    refine WL.move rfl ?_
    have hlt29 : j < vietAll.length := by omega
    obtain ⟨ad30, cs31, hA32, hs33, hat34, hR35⟩ := SlD.get (hC16.up hU23) (List.getElem?_eq_getElem hlt29)
    rw [show _ = _ from hR35.1] at hat34
    have hhR35 := hR35.2; simp only [I64] at hhR35
    refine WL.idx es29 rfl rfl hA32 (by omega) (by omega) ?_
    refine WL.load sc3 rfl (hat34.cell 0 _ rfl) ?_
    refine WL.assign rfl ?_
    refine WL.assign rfl ?_
    refine WL.nil ?_
    refine CW.seq ?_
    refine CW.region ?_
    refine WL.move rfl ?_
    refine WL.move rfl ?_
    refine WL.eql rfl rfl ?_
    refine WL.nil ?_
    refine CW.condP rfl (fun hc36 => ?_) (fun hc36 => ?_)
    · refine CW.seq ?_
      refine CW.region ?_
      refine WL.move rfl ?_
      refine WL.move rfl ?_
      have hlt37 : j < vietAll.length := by omega
      obtain ⟨ad38, cs39, hA40, hs41, hat42, hR43⟩ := SlD.get (hL15.up hU23) (List.getElem?_eq_getElem hlt37)
      rw [show _ = _ from hR43] at hat42
      refine WL.idx es38 rfl rfl hA40 (by omega) (by omega) ?_
      refine WL.loadAgg (cs := [.int .i64 (vietAll[j].1.b), .complex .f64 (vietAll[j].1.re) (vietAll[j].1.im)]) ag26 rfl hat42 ?_
      refine WL.storeAll (vs := [.int .i64 (vietAll[j].1.b), .complex .f64 (vietAll[j].1.re) (vietAll[j].1.im)]) (by rw [ti26]; rfl) rfl rfl (by simp [Value.oneCell']) (Bk.ext (Bk.ext hb4 he19) hX27) rfl (fun w44 hb45 hs46 => ?_)
      have e47 := Ext.stp hE24 hs46 (fun k hk => by rw [hk]; exact Nat.le_trans (Stp.size e0) hg3)
      refine WL.assign rfl ?_
      refine WL.nil ?_
      refine CW.ret ?_
      refine Ret.cell2 (cs := [.int .i64 (vietAll[j].1.b), .complex .f64 (vietAll[j].1.re) (vietAll[j].1.im)]) rfl rfl ag26 hb45 rfl ?_
      exact ⟨by rw [find_hit (by omega) hf (decide_eq_true hc36)]; rfl, e47⟩
    · refine CW.skip ?_
      refine CW.region ?_
      refine WL.add rfl rfl (by omega) ?_
      refine WL.move rfl ?_
      refine WL.nil ?_
      refine Loop.again _ _ ?_ ?_ ⟨j + 1, rfl, rfl, hU23, hE24, hX27, by omega, find_next (by omega) hf (decide_eq_false hc36)⟩
      · omega
      · exact .cons (t := 0) rfl (.cons (t := 2) rfl (.cons (t := 4) rfl (.cons (t := 12) rfl (.cons (t := 13) rfl (.cons (t := 14) rfl (.nil _))))))
  · refine CW.exit ?_
    refine CW.seq ?_
    refine CW.region ?_
    refine WL.buildP (cs := #[.int .i64 0, .complex .f64 0 0]) (.nil) (by kernel_rfl) ?_
    refine WL.storeAll (vs := [.int .i64 0, .complex .f64 0 0]) (by rw [ti26]; rfl) rfl rfl (by simp [Value.oneCell']) (Bk.ext (Bk.ext hb4 he19) hX27) rfl (fun w48 hb49 hs50 => ?_)
    have e51 := Ext.stp hE24 hs50 (fun k hk => by rw [hk]; exact Nat.le_trans (Stp.size e0) hg3)
    refine WL.assign rfl ?_
    refine WL.nil ?_
    refine CW.ret ?_
    refine Ret.cell2 (cs := [.int .i64 0, .complex .f64 0 0]) rfl rfl ag26 hb49 rfl ?_
    exact ⟨by rw [find_end (by omega) hf]; rfl, e51⟩

theorem Join_spec (w : World) (M : MS) (hm : MB w M) (b : Int) (re im : Nat) :
    Fc Try.prog 58 #[.agg #[.int .i64 b, .complex .f64 re im]] w fun v w' => v = joinV (vietAll.find? (joinP b re im)) ∧ Ext w w' := by
  have e0 := Stp.refl w (fun _ => False)
  have hvl := vietAll_len
  refine Fc.enter (n := 27) [(0, .agg #[.int .i64 b, .complex .f64 re im])] Try.func58 rfl rfl (Nat.le_of_ble_eq_true rfl) (.cons rfl (.nil _)) ?_
  refine CW.seq ?_
  refine CW.region ?_
  refine WL.box (cs := [.int .i64 b, .complex .f64 re im]) rfl rfl (fun g1 w2 hg3 hb4 he5 => ?_)
  have hn6 := MB.fresh hm hg3
  have u7 := Ext.up he5 hm
  have e8 := Ext.trans e0 he5
  have hm9 := Up.mb u7
  have ha10 := Bk.at_ hb4 hn6
  refine WL.assign rfl ?_
  refine WL.assign rfl ?_
  refine WL.nil ?_
  refine CW.seq ?_
  refine CW.region ?_
  refine WL.call Try.func22 rfl rfl .nil (All_spec _ _ hm9) (fun _ w19 hr20 => ?_)
  obtain ⟨_, _, rfl, h1, h2, he21⟩ := hr20
  obtain ⟨A13, c14, rfl, hL17⟩ := Sl.map h1
  obtain ⟨A15, c16, rfl, hC18⟩ := Sl.map h2
  have u22 := Ext.up he21 hm9
  have e23 := Ext.trans e8 he21
  have hm24 := Up.mb u22
  refine WL.move rfl ?_
  refine WL.extract rfl rfl ?_
  refine WL.extract rfl rfl ?_
  refine WL.assign rfl ?_
  refine WL.assign rfl ?_
  refine WL.nil ?_
  refine CW.seq ?_
  refine CW.seq ?_
  refine CW.region ?_
  refine WL.move rfl ?_
  refine WL.len Try.underlying38 rfl ?_
  refine WL.move rfl ?_
  refine WL.nil ?_
  refine CW.block ?_
  refine CW.loop (fun m σ wr0 => ∃ j : Nat, m = vietAll.length - j ∧ σ = [(1, .pointer (some ⟨g1, 0, none⟩)), (5, .slice A15 vietAll.length c16), (12, .slice A13 vietAll.length c14), (13, .int .i64 (vietAll.length : Int)), (14, .int .i64 (j : Int))] ∧ (Up w19 M wr0 M) ∧ (Ext w wr0) ∧ (Ext w19 wr0) ∧ (j ≤ vietAll.length) ∧ ((vietAll.take j).find? (joinP b re im) = none)) _ _ (.cons (t := 1) rfl (.cons (t := 5) rfl (.cons (t := 12) rfl (.cons (t := 13) rfl (.cons (t := 14) rfl (.nil _)))))) ⟨0, rfl, rfl, Up.refl hm24, e23, Stp.refl _ _, by omega, find_start⟩ ?_
  rintro m _ wr0 ⟨j, rfl, rfl, hU25, hE26, hX29, hj, hf⟩
  have hm27 := Up.mb hU25
  refine CW.seq ?_
  refine CW.region ?_
  refine WL.lss rfl rfl ?_
  refine WL.nil ?_
  refine CW.seq ?_
  refine CW.condP rfl (fun hc30 => ?_) (fun hc30 => ?_)
  · refine CW.skip ?_
    refine CW.seq ?_
    refine CW.block ?_
    refine CW.seq ?_
    refine CW.region ?_
    refine WL.move rfl ?_
    have hlt31 : j < vietAll.length := by omega
    obtain ⟨ad32, cs33, hA34, hs35, hat36, hR37⟩ := SlD.get (hL17.up hU25) (List.getElem?_eq_getElem hlt31)
    rw [show _ = _ from hR37] at hat36
    refine WL.idx es38 rfl rfl hA34 (by omega) (by omega) ?_
    refine WL.loadAgg (cs := [.int .i64 (vietAll[j].1.b), .complex .f64 (vietAll[j].1.re) (vietAll[j].1.im)]) ag26 rfl hat36 ?_
    refine WL.alloc (cs := [.int .i64 0, .complex .f64 0 0]) ti26 rfl (fun g38 w39 hg40 hb41 he42 => ?_)
    have u43 := Ext.up he42 hm27
    have e44 := Ext.trans hE26 he42
    have hm45 := Up.mb u43
    refine WL.assign rfl ?_
    have hb49 := hb41
    refine WL.storeAll (vs := [.int .i64 (vietAll[j].1.b), .complex .f64 (vietAll[j].1.re) (vietAll[j].1.im)]) (by rw [ti26]; rfl) rfl rfl (by simp [Value.oneCell']) hb49 rfl (fun w46 hb47 hs48 => ?_)
    have he50 : Ext wr0 w46 := Stp.trans he42 hs48 (fun k hk => .inr (by rw [hk]; exact hg40))
    have hn51 := MB.fresh hm27 hg40
    have u52 := Ext.up he50 hm27
    have e53 := Ext.trans hE26 he50
    have hm54 := Up.mb u52
    have ha55 := Bk.at_ hb47 hn51
    refine WL.nil ?_
    refine CW.seq ?_
    refine CW.region ?_
    refine WL.loadAgg (cs := [.int .i64 (vietAll[j].1.b), .complex .f64 (vietAll[j].1.re) (vietAll[j].1.im)]) ag26 rfl ha55 ?_
    refine WL.loadAgg (cs := [.int .i64 b, .complex .f64 re im]) ag26 rfl (ha10.up (Up.trans u22 (Up.trans hU25 u52))) ?_
    refine WL.rn (eqs26 rfl rfl) ?_
    refine WL.nil ?_
    refine CW.condB rfl (fun hc56 => ?_) (fun hc56 => ?_)
    · refine CW.seq ?_
      refine CW.region ?_
      refine WL.move rfl ?_
      refine WL.move rfl ?_
      have hlt57 : j < vietAll.length := by omega
      obtain ⟨ad58, cs59, hA60, hs61, hat62, hR63⟩ := SlD.get (hC18.up (Up.trans hU25 u52)) (List.getElem?_eq_getElem hlt57)
      rw [show _ = _ from hR63.1] at hat62
      have hhR63 := hR63.2; simp only [I64] at hhR63
      refine WL.idx es29 rfl rfl hA60 (by omega) (by omega) ?_
      refine WL.load sc3 rfl (hat62.cell 0 _ rfl) ?_
      refine WL.assign rfl ?_
      refine WL.assign rfl ?_
      refine WL.nil ?_
      refine CW.ret ?_
      refine Ret.two rfl rfl rfl ?_
      exact ⟨by rw [find_hit (by omega) hf hc56]; rfl, e53⟩
    · refine CW.skip ?_
      refine CW.region ?_
      refine WL.add rfl rfl (by omega) ?_
      refine WL.move rfl ?_
      refine WL.nil ?_
      refine Loop.again _ _ ?_ ?_ ⟨j + 1, rfl, rfl, (Up.trans hU25 u52), e53, (Ext.trans hX29 he50), by omega, find_next (by omega) hf (hc56)⟩
      · omega
      · exact .cons (t := 1) rfl (.cons (t := 5) rfl (.cons (t := 12) rfl (.cons (t := 13) rfl (.cons (t := 14) rfl (.nil _)))))
  · refine CW.exit ?_
    refine CW.seq ?_
    refine CW.region ?_
    refine WL.assign rfl ?_
    refine WL.assign rfl ?_
    refine WL.nil ?_
    refine CW.ret ?_
    refine Ret.two rfl rfl rfl ?_
    exact ⟨by rw [find_end (by omega) hf]; rfl, hE26⟩

theorem Add_spec (w : World) (M : MS) (hm : MB w M) (t : Lt) (x y : Nat) :
    Fc Try.prog 20 #[.agg #[.int .i64 t.b, .complex .f64 t.re t.im], .complex .f64 x y] w fun v w' => AddR t x y v ∧ Ext w w' := by
  have e0 := Stp.refl w (fun _ => False)
  refine Fc.enter (n := 46) [(0, .agg #[.int .i64 t.b, .complex .f64 t.re t.im]), (1, .complex .f64 x y)] Try.func20 rfl rfl (Nat.le_of_ble_eq_true rfl) (.cons rfl (.cons rfl (.nil _))) ?_
  refine CW.seq ?_
  refine CW.region ?_
  refine WL.box (cs := [.int .i64 t.b, .complex .f64 t.re t.im]) rfl rfl (fun g1 w2 hg3 hb4 he5 => ?_)
  have hn6 := MB.fresh hm hg3
  have u7 := Ext.up he5 hm
  have e8 := Ext.trans e0 he5
  have hm9 := Up.mb u7
  have ha10 := Bk.at_ hb4 hn6
  refine WL.alloc (cs := [.int .i64 0, .complex .f64 0 0]) ti26 rfl (fun g11 w12 hg13 hb14 he15 => ?_)
  have u16 := Ext.up he15 hm9
  have e17 := Ext.trans e8 he15
  have hm18 := Up.mb u16
  refine WL.assign rfl ?_
  refine WL.nil ?_
  refine CW.seq ?_
  refine CW.seq ?_
  refine CW.region ?_
  refine WL.fieldAddr fo26_1 rfl ?_
  refine WL.load sc24 rfl ((ha10.up u16).cell 1 _ rfl) ?_
  refine WL.real rfl ?_
  refine WL.fne rfl rfl ?_
  refine WL.move rfl ?_
  cases hg19 : !fe t.re 0
  · refine WL.gskip rfl rfl rfl ?_
    refine WL.gskip rfl rfl rfl ?_
    refine WL.gskip rfl rfl rfl ?_
    refine WL.pickF rfl rfl ?_
    refine WL.move rfl ?_
    refine WL.gtake rfl rfl rfl ?_
    refine WL.fieldAddr fo26_1 rfl ?_
    refine WL.gtake rfl rfl rfl ?_
    refine WL.load sc24 rfl ((ha10.up u16).cell 1 _ rfl) ?_
    refine WL.gtake rfl rfl rfl ?_
    refine WL.imag rfl ?_
    refine WL.gtake rfl rfl rfl ?_
    refine WL.fne rfl rfl ?_
    refine WL.gtake rfl rfl rfl ?_
    refine WL.move rfl ?_
    cases hg20 : !fe t.im 0
    · refine WL.gskip rfl rfl rfl ?_
      refine WL.gskip rfl rfl rfl ?_
      refine WL.gskip rfl rfl rfl ?_
      refine WL.gtake rfl rfl rfl ?_
      refine WL.pickF rfl rfl ?_
      refine WL.pickF rfl rfl ?_
      refine WL.nil ?_
      refine CW.condF rfl ?_
      refine CW.skip ?_
      refine CW.seq ?_
      refine CW.region ?_
      refine WL.fieldAddr fo26_0 rfl ?_
      refine WL.load sc3 rfl ((ha10.up u16).cell 0 _ rfl) ?_
      refine WL.fieldAddr fo26_1 rfl ?_
      refine WL.load sc24 rfl ((ha10.up u16).cell 1 _ rfl) ?_
      refine WL.move rfl ?_
      refine WL.cadd rfl rfl (fun r21 s22 w23 hr24 hs25 he26 => ?_)
      have u27 := Ext.up he26 hm18
      have e28 := Ext.trans e17 he26
      have hm29 := Up.mb u27
      refine WL.buildP (cs := #[.int .i64 t.b, .complex .f64 r21 s22]) (.cons rfl (.cons rfl (.nil))) (by kernel_rfl) ?_
      refine WL.alloc (cs := [.int .i64 0, .complex .f64 0 0]) ti26 rfl (fun g30 w31 hg32 hb33 he34 => ?_)
      have ne35 : g11 ≠ g30 := by have h1 := Bk.lt (Bk.ext hb14 he26); have h2 := hg32; omega
      have u36 := Ext.up he34 hm29
      have e37 := Ext.trans e28 he34
      have hm38 := Up.mb u36
      have hb42 := hb33
      refine WL.storeAll (vs := [.int .i64 t.b, .complex .f64 r21 s22]) (by rw [ti26]; rfl) rfl rfl (by simp [Value.oneCell']) hb42 rfl (fun w39 hb40 hs41 => ?_)
      have he43 : Ext w23 w39 := Stp.trans he34 hs41 (fun k hk => .inr (by rw [hk]; exact hg32))
      have hn44 := MB.fresh hm29 hg32
      have u45 := Ext.up he43 hm29
      have e46 := Ext.trans e28 he43
      have hm47 := Up.mb u45
      have ha48 := Bk.at_ hb40 hn44
      refine WL.nil ?_
      refine CW.seq ?_
      refine CW.seq ?_
      refine CW.region ?_
      refine WL.loadAgg (cs := [.int .i64 t.b, .complex .f64 r21 s22]) ag26 rfl ha48 ?_
      refine WL.call Try.func58 rfl rfl (.cons rfl .nil) (Join_spec _ _ hm47 t.b r21 s22) (fun _ w49 hr50 => ?_)
      obtain ⟨rfl, he51⟩ := hr50
      have u52 := Ext.up he51 hm47
      have e53 := Ext.trans e46 he51
      have hm54 := Up.mb u52
      refine WL.move rfl ?_
      refine WL.extract rfl rfl ?_
      refine WL.extract rfl rfl ?_
      refine WL.assign rfl ?_
      refine WL.assign rfl ?_
      refine WL.nil ?_
      refine CW.seq ?_
      refine CW.region ?_
      refine WL.move rfl ?_
      refine WL.not_ rfl ?_
      refine WL.nil ?_
      refine CW.condB rfl (fun hc55 => ?_) (fun hc55 => ?_)
      · refine CW.seq ?_
        refine CW.region ?_
        refine WL.loadAgg (cs := [.int .i64 t.b, .complex .f64 t.re t.im]) ag26 rfl (ha10.up (Up.trans u16 (Up.trans u27 (Up.trans u45 u52)))) ?_
        refine WL.storeAll (vs := [.int .i64 t.b, .complex .f64 t.re t.im]) (by rw [ti26]; rfl) rfl rfl (by simp [Value.oneCell']) (Bk.ext (Bk.ext (Bk.ext hb14 he26) he43) he51) rfl (fun w56 hb57 hs58 => ?_)
        have e59 := Ext.stp e53 hs58 (fun k hk => by rw [hk]; exact Nat.le_trans (Stp.size e8) hg13)
        refine WL.assign rfl ?_
        refine WL.nil ?_
        refine CW.ret ?_
        refine Ret.cell2 (cs := [.int .i64 t.b, .complex .f64 t.re t.im]) rfl rfl ag26 hb57 rfl ?_
        refine ⟨?_, e59⟩
        have hcl : clash t x y ≠ true := by simp [clash, *]
        unfold AddR
        rw [if_neg hcl]
        refine ⟨r21, s22, hr24, hs25, ?_⟩
        have hjj := hc55; simp only [Bool.not_eq_true', Bool.not_eq_true, Bool.not_eq_false', Bool.not_eq_false] at hjj
        simp [J, Lt.cells, hjj]
      · refine CW.skip ?_
        refine CW.seq ?_
        refine CW.region ?_
        refine WL.loadAgg (cs := [.int .i64 t.b, .complex .f64 r21 s22]) ag26 rfl (ha48.up u52) ?_
        refine WL.storeAll (vs := [.int .i64 t.b, .complex .f64 r21 s22]) (by rw [ti26]; rfl) rfl rfl (by simp [Value.oneCell']) (Bk.ext (Bk.ext (Bk.ext hb14 he26) he43) he51) rfl (fun w60 hb61 hs62 => ?_)
        have e63 := Ext.stp e53 hs62 (fun k hk => by rw [hk]; exact Nat.le_trans (Stp.size e8) hg13)
        refine WL.assign rfl ?_
        refine WL.nil ?_
        refine CW.ret ?_
        refine Ret.cell2 (cs := [.int .i64 t.b, .complex .f64 r21 s22]) rfl rfl ag26 hb61 rfl ?_
        refine ⟨?_, e63⟩
        have hcl : clash t x y ≠ true := by simp [clash, *]
        unfold AddR
        rw [if_neg hcl]
        refine ⟨r21, s22, hr24, hs25, ?_⟩
        have hjj := hc55; simp only [Bool.not_eq_true', Bool.not_eq_true, Bool.not_eq_false', Bool.not_eq_false] at hjj
        simp [J, Lt.cells, hjj]
    · refine WL.gtake rfl rfl rfl ?_
      refine WL.move rfl ?_
      refine WL.gtake rfl rfl rfl ?_
      refine WL.imag rfl ?_
      refine WL.gtake rfl rfl rfl ?_
      refine WL.fne rfl rfl ?_
      refine WL.gtake rfl rfl rfl ?_
      refine WL.pickT rfl rfl ?_
      refine WL.pickF rfl rfl ?_
      refine WL.nil ?_
      refine CW.condB rfl (fun hc64 => ?_) (fun hc64 => ?_)
      · refine CW.seq ?_
        refine CW.region ?_
        refine WL.loadAgg (cs := [.int .i64 t.b, .complex .f64 t.re t.im]) ag26 rfl (ha10.up u16) ?_
        have hb68 := hb14
        refine WL.storeAll (vs := [.int .i64 t.b, .complex .f64 t.re t.im]) (by rw [ti26]; rfl) rfl rfl (by simp [Value.oneCell']) hb68 rfl (fun w65 hb66 hs67 => ?_)
        have he69 : Ext w2 w65 := Stp.trans he15 hs67 (fun k hk => .inr (by rw [hk]; exact hg13))
        have hn70 := MB.fresh hm9 hg13
        have u71 := Ext.up he69 hm9
        have e72 := Ext.trans e8 he69
        have hm73 := Up.mb u71
        have ha74 := Bk.at_ hb66 hn70
        refine WL.assign rfl ?_
        refine WL.nil ?_
        refine CW.ret ?_
        refine Ret.cell2 (cs := [.int .i64 t.b, .complex .f64 t.re t.im]) rfl rfl ag26 hb66 rfl ?_
        refine ⟨?_, e72⟩
        have hcl : clash t x y = true := by simp [clash, *]
        unfold AddR
        rw [if_pos hcl]
        rfl
      · refine CW.skip ?_
        refine CW.seq ?_
        refine CW.region ?_
        refine WL.fieldAddr fo26_0 rfl ?_
        refine WL.load sc3 rfl ((ha10.up u16).cell 0 _ rfl) ?_
        refine WL.fieldAddr fo26_1 rfl ?_
        refine WL.load sc24 rfl ((ha10.up u16).cell 1 _ rfl) ?_
        refine WL.move rfl ?_
        refine WL.cadd rfl rfl (fun r75 s76 w77 hr78 hs79 he80 => ?_)
        have u81 := Ext.up he80 hm18
        have e82 := Ext.trans e17 he80
        have hm83 := Up.mb u81
        refine WL.buildP (cs := #[.int .i64 t.b, .complex .f64 r75 s76]) (.cons rfl (.cons rfl (.nil))) (by kernel_rfl) ?_
        refine WL.alloc (cs := [.int .i64 0, .complex .f64 0 0]) ti26 rfl (fun g84 w85 hg86 hb87 he88 => ?_)
        have ne89 : g11 ≠ g84 := by have h1 := Bk.lt (Bk.ext hb14 he80); have h2 := hg86; omega
        have u90 := Ext.up he88 hm83
        have e91 := Ext.trans e82 he88
        have hm92 := Up.mb u90
        have hb96 := hb87
        refine WL.storeAll (vs := [.int .i64 t.b, .complex .f64 r75 s76]) (by rw [ti26]; rfl) rfl rfl (by simp [Value.oneCell']) hb96 rfl (fun w93 hb94 hs95 => ?_)
        have he97 : Ext w77 w93 := Stp.trans he88 hs95 (fun k hk => .inr (by rw [hk]; exact hg86))
        have hn98 := MB.fresh hm83 hg86
        have u99 := Ext.up he97 hm83
        have e100 := Ext.trans e82 he97
        have hm101 := Up.mb u99
        have ha102 := Bk.at_ hb94 hn98
        refine WL.nil ?_
        refine CW.seq ?_
        refine CW.seq ?_
        refine CW.region ?_
        refine WL.loadAgg (cs := [.int .i64 t.b, .complex .f64 r75 s76]) ag26 rfl ha102 ?_
        refine WL.call Try.func58 rfl rfl (.cons rfl .nil) (Join_spec _ _ hm101 t.b r75 s76) (fun _ w103 hr104 => ?_)
        obtain ⟨rfl, he105⟩ := hr104
        have u106 := Ext.up he105 hm101
        have e107 := Ext.trans e100 he105
        have hm108 := Up.mb u106
        refine WL.move rfl ?_
        refine WL.extract rfl rfl ?_
        refine WL.extract rfl rfl ?_
        refine WL.assign rfl ?_
        refine WL.assign rfl ?_
        refine WL.nil ?_
        refine CW.seq ?_
        refine CW.region ?_
        refine WL.move rfl ?_
        refine WL.not_ rfl ?_
        refine WL.nil ?_
        refine CW.condB rfl (fun hc109 => ?_) (fun hc109 => ?_)
        · refine CW.seq ?_
          refine CW.region ?_
          refine WL.loadAgg (cs := [.int .i64 t.b, .complex .f64 t.re t.im]) ag26 rfl (ha10.up (Up.trans u16 (Up.trans u81 (Up.trans u99 u106)))) ?_
          refine WL.storeAll (vs := [.int .i64 t.b, .complex .f64 t.re t.im]) (by rw [ti26]; rfl) rfl rfl (by simp [Value.oneCell']) (Bk.ext (Bk.ext (Bk.ext hb14 he80) he97) he105) rfl (fun w110 hb111 hs112 => ?_)
          have e113 := Ext.stp e107 hs112 (fun k hk => by rw [hk]; exact Nat.le_trans (Stp.size e8) hg13)
          refine WL.assign rfl ?_
          refine WL.nil ?_
          refine CW.ret ?_
          refine Ret.cell2 (cs := [.int .i64 t.b, .complex .f64 t.re t.im]) rfl rfl ag26 hb111 rfl ?_
          refine ⟨?_, e113⟩
          have hcl : clash t x y ≠ true := by simp [clash, *]
          unfold AddR
          rw [if_neg hcl]
          refine ⟨r75, s76, hr78, hs79, ?_⟩
          have hjj := hc109; simp only [Bool.not_eq_true', Bool.not_eq_true, Bool.not_eq_false', Bool.not_eq_false] at hjj
          simp [J, Lt.cells, hjj]
        · refine CW.skip ?_
          refine CW.seq ?_
          refine CW.region ?_
          refine WL.loadAgg (cs := [.int .i64 t.b, .complex .f64 r75 s76]) ag26 rfl (ha102.up u106) ?_
          refine WL.storeAll (vs := [.int .i64 t.b, .complex .f64 r75 s76]) (by rw [ti26]; rfl) rfl rfl (by simp [Value.oneCell']) (Bk.ext (Bk.ext (Bk.ext hb14 he80) he97) he105) rfl (fun w114 hb115 hs116 => ?_)
          have e117 := Ext.stp e107 hs116 (fun k hk => by rw [hk]; exact Nat.le_trans (Stp.size e8) hg13)
          refine WL.assign rfl ?_
          refine WL.nil ?_
          refine CW.ret ?_
          refine Ret.cell2 (cs := [.int .i64 t.b, .complex .f64 r75 s76]) rfl rfl ag26 hb115 rfl ?_
          refine ⟨?_, e117⟩
          have hcl : clash t x y ≠ true := by simp [clash, *]
          unfold AddR
          rw [if_neg hcl]
          refine ⟨r75, s76, hr78, hs79, ?_⟩
          have hjj := hc109; simp only [Bool.not_eq_true', Bool.not_eq_true, Bool.not_eq_false', Bool.not_eq_false] at hjj
          simp [J, Lt.cells, hjj]
  · refine WL.gtake rfl rfl rfl ?_
    refine WL.move rfl ?_
    refine WL.gtake rfl rfl rfl ?_
    refine WL.real rfl ?_
    refine WL.gtake rfl rfl rfl ?_
    refine WL.fne rfl rfl ?_
    refine WL.pickT rfl rfl ?_
    refine WL.move rfl ?_
    cases hg118 : !fe x 0
    · refine WL.gtake rfl rfl rfl ?_
      refine WL.fieldAddr fo26_1 rfl ?_
      refine WL.gtake rfl rfl rfl ?_
      refine WL.load sc24 rfl ((ha10.up u16).cell 1 _ rfl) ?_
      refine WL.gtake rfl rfl rfl ?_
      refine WL.imag rfl ?_
      refine WL.gtake rfl rfl rfl ?_
      refine WL.fne rfl rfl ?_
      refine WL.gtake rfl rfl rfl ?_
      refine WL.move rfl ?_
      cases hg119 : !fe t.im 0
      · refine WL.gskip rfl rfl rfl ?_
        refine WL.gskip rfl rfl rfl ?_
        refine WL.gskip rfl rfl rfl ?_
        refine WL.gtake rfl rfl rfl ?_
        refine WL.pickF rfl rfl ?_
        refine WL.pickF rfl rfl ?_
        refine WL.nil ?_
        refine CW.condF rfl ?_
        refine CW.skip ?_
        refine CW.seq ?_
        refine CW.region ?_
        refine WL.fieldAddr fo26_0 rfl ?_
        refine WL.load sc3 rfl ((ha10.up u16).cell 0 _ rfl) ?_
        refine WL.fieldAddr fo26_1 rfl ?_
        refine WL.load sc24 rfl ((ha10.up u16).cell 1 _ rfl) ?_
        refine WL.move rfl ?_
        refine WL.cadd rfl rfl (fun r120 s121 w122 hr123 hs124 he125 => ?_)
        have u126 := Ext.up he125 hm18
        have e127 := Ext.trans e17 he125
        have hm128 := Up.mb u126
        refine WL.buildP (cs := #[.int .i64 t.b, .complex .f64 r120 s121]) (.cons rfl (.cons rfl (.nil))) (by kernel_rfl) ?_
        refine WL.alloc (cs := [.int .i64 0, .complex .f64 0 0]) ti26 rfl (fun g129 w130 hg131 hb132 he133 => ?_)
        have ne134 : g11 ≠ g129 := by have h1 := Bk.lt (Bk.ext hb14 he125); have h2 := hg131; omega
        have u135 := Ext.up he133 hm128
        have e136 := Ext.trans e127 he133
        have hm137 := Up.mb u135
        have hb141 := hb132
        refine WL.storeAll (vs := [.int .i64 t.b, .complex .f64 r120 s121]) (by rw [ti26]; rfl) rfl rfl (by simp [Value.oneCell']) hb141 rfl (fun w138 hb139 hs140 => ?_)
        have he142 : Ext w122 w138 := Stp.trans he133 hs140 (fun k hk => .inr (by rw [hk]; exact hg131))
        have hn143 := MB.fresh hm128 hg131
        have u144 := Ext.up he142 hm128
        have e145 := Ext.trans e127 he142
        have hm146 := Up.mb u144
        have ha147 := Bk.at_ hb139 hn143
        refine WL.nil ?_
        refine CW.seq ?_
        refine CW.seq ?_
        refine CW.region ?_
        refine WL.loadAgg (cs := [.int .i64 t.b, .complex .f64 r120 s121]) ag26 rfl ha147 ?_
        refine WL.call Try.func58 rfl rfl (.cons rfl .nil) (Join_spec _ _ hm146 t.b r120 s121) (fun _ w148 hr149 => ?_)
        obtain ⟨rfl, he150⟩ := hr149
        have u151 := Ext.up he150 hm146
        have e152 := Ext.trans e145 he150
        have hm153 := Up.mb u151
        refine WL.move rfl ?_
        refine WL.extract rfl rfl ?_
        refine WL.extract rfl rfl ?_
        refine WL.assign rfl ?_
        refine WL.assign rfl ?_
        refine WL.nil ?_
        refine CW.seq ?_
        refine CW.region ?_
        refine WL.move rfl ?_
        refine WL.not_ rfl ?_
        refine WL.nil ?_
        refine CW.condB rfl (fun hc154 => ?_) (fun hc154 => ?_)
        · refine CW.seq ?_
          refine CW.region ?_
          refine WL.loadAgg (cs := [.int .i64 t.b, .complex .f64 t.re t.im]) ag26 rfl (ha10.up (Up.trans u16 (Up.trans u126 (Up.trans u144 u151)))) ?_
          refine WL.storeAll (vs := [.int .i64 t.b, .complex .f64 t.re t.im]) (by rw [ti26]; rfl) rfl rfl (by simp [Value.oneCell']) (Bk.ext (Bk.ext (Bk.ext hb14 he125) he142) he150) rfl (fun w155 hb156 hs157 => ?_)
          have e158 := Ext.stp e152 hs157 (fun k hk => by rw [hk]; exact Nat.le_trans (Stp.size e8) hg13)
          refine WL.assign rfl ?_
          refine WL.nil ?_
          refine CW.ret ?_
          refine Ret.cell2 (cs := [.int .i64 t.b, .complex .f64 t.re t.im]) rfl rfl ag26 hb156 rfl ?_
          refine ⟨?_, e158⟩
          have hcl : clash t x y ≠ true := by simp [clash, *]
          unfold AddR
          rw [if_neg hcl]
          refine ⟨r120, s121, hr123, hs124, ?_⟩
          have hjj := hc154; simp only [Bool.not_eq_true', Bool.not_eq_true, Bool.not_eq_false', Bool.not_eq_false] at hjj
          simp [J, Lt.cells, hjj]
        · refine CW.skip ?_
          refine CW.seq ?_
          refine CW.region ?_
          refine WL.loadAgg (cs := [.int .i64 t.b, .complex .f64 r120 s121]) ag26 rfl (ha147.up u151) ?_
          refine WL.storeAll (vs := [.int .i64 t.b, .complex .f64 r120 s121]) (by rw [ti26]; rfl) rfl rfl (by simp [Value.oneCell']) (Bk.ext (Bk.ext (Bk.ext hb14 he125) he142) he150) rfl (fun w159 hb160 hs161 => ?_)
          have e162 := Ext.stp e152 hs161 (fun k hk => by rw [hk]; exact Nat.le_trans (Stp.size e8) hg13)
          refine WL.assign rfl ?_
          refine WL.nil ?_
          refine CW.ret ?_
          refine Ret.cell2 (cs := [.int .i64 t.b, .complex .f64 r120 s121]) rfl rfl ag26 hb160 rfl ?_
          refine ⟨?_, e162⟩
          have hcl : clash t x y ≠ true := by simp [clash, *]
          unfold AddR
          rw [if_neg hcl]
          refine ⟨r120, s121, hr123, hs124, ?_⟩
          have hjj := hc154; simp only [Bool.not_eq_true', Bool.not_eq_true, Bool.not_eq_false', Bool.not_eq_false] at hjj
          simp [J, Lt.cells, hjj]
      · refine WL.gtake rfl rfl rfl ?_
        refine WL.move rfl ?_
        refine WL.gtake rfl rfl rfl ?_
        refine WL.imag rfl ?_
        refine WL.gtake rfl rfl rfl ?_
        refine WL.fne rfl rfl ?_
        refine WL.gtake rfl rfl rfl ?_
        refine WL.pickT rfl rfl ?_
        refine WL.pickF rfl rfl ?_
        refine WL.nil ?_
        refine CW.condB rfl (fun hc163 => ?_) (fun hc163 => ?_)
        · refine CW.seq ?_
          refine CW.region ?_
          refine WL.loadAgg (cs := [.int .i64 t.b, .complex .f64 t.re t.im]) ag26 rfl (ha10.up u16) ?_
          have hb167 := hb14
          refine WL.storeAll (vs := [.int .i64 t.b, .complex .f64 t.re t.im]) (by rw [ti26]; rfl) rfl rfl (by simp [Value.oneCell']) hb167 rfl (fun w164 hb165 hs166 => ?_)
          have he168 : Ext w2 w164 := Stp.trans he15 hs166 (fun k hk => .inr (by rw [hk]; exact hg13))
          have hn169 := MB.fresh hm9 hg13
          have u170 := Ext.up he168 hm9
          have e171 := Ext.trans e8 he168
          have hm172 := Up.mb u170
          have ha173 := Bk.at_ hb165 hn169
          refine WL.assign rfl ?_
          refine WL.nil ?_
          refine CW.ret ?_
          refine Ret.cell2 (cs := [.int .i64 t.b, .complex .f64 t.re t.im]) rfl rfl ag26 hb165 rfl ?_
          refine ⟨?_, e171⟩
          have hcl : clash t x y = true := by simp [clash, *]
          unfold AddR
          rw [if_pos hcl]
          rfl
        · refine CW.skip ?_
          refine CW.seq ?_
          refine CW.region ?_
          refine WL.fieldAddr fo26_0 rfl ?_
          refine WL.load sc3 rfl ((ha10.up u16).cell 0 _ rfl) ?_
          refine WL.fieldAddr fo26_1 rfl ?_
          refine WL.load sc24 rfl ((ha10.up u16).cell 1 _ rfl) ?_
          refine WL.move rfl ?_
          refine WL.cadd rfl rfl (fun r174 s175 w176 hr177 hs178 he179 => ?_)
          have u180 := Ext.up he179 hm18
          have e181 := Ext.trans e17 he179
          have hm182 := Up.mb u180
          refine WL.buildP (cs := #[.int .i64 t.b, .complex .f64 r174 s175]) (.cons rfl (.cons rfl (.nil))) (by kernel_rfl) ?_
          refine WL.alloc (cs := [.int .i64 0, .complex .f64 0 0]) ti26 rfl (fun g183 w184 hg185 hb186 he187 => ?_)
          have ne188 : g11 ≠ g183 := by have h1 := Bk.lt (Bk.ext hb14 he179); have h2 := hg185; omega
          have u189 := Ext.up he187 hm182
          have e190 := Ext.trans e181 he187
          have hm191 := Up.mb u189
          have hb195 := hb186
          refine WL.storeAll (vs := [.int .i64 t.b, .complex .f64 r174 s175]) (by rw [ti26]; rfl) rfl rfl (by simp [Value.oneCell']) hb195 rfl (fun w192 hb193 hs194 => ?_)
          have he196 : Ext w176 w192 := Stp.trans he187 hs194 (fun k hk => .inr (by rw [hk]; exact hg185))
          have hn197 := MB.fresh hm182 hg185
          have u198 := Ext.up he196 hm182
          have e199 := Ext.trans e181 he196
          have hm200 := Up.mb u198
          have ha201 := Bk.at_ hb193 hn197
          refine WL.nil ?_
          refine CW.seq ?_
          refine CW.seq ?_
          refine CW.region ?_
          refine WL.loadAgg (cs := [.int .i64 t.b, .complex .f64 r174 s175]) ag26 rfl ha201 ?_
          refine WL.call Try.func58 rfl rfl (.cons rfl .nil) (Join_spec _ _ hm200 t.b r174 s175) (fun _ w202 hr203 => ?_)
          obtain ⟨rfl, he204⟩ := hr203
          have u205 := Ext.up he204 hm200
          have e206 := Ext.trans e199 he204
          have hm207 := Up.mb u205
          refine WL.move rfl ?_
          refine WL.extract rfl rfl ?_
          refine WL.extract rfl rfl ?_
          refine WL.assign rfl ?_
          refine WL.assign rfl ?_
          refine WL.nil ?_
          refine CW.seq ?_
          refine CW.region ?_
          refine WL.move rfl ?_
          refine WL.not_ rfl ?_
          refine WL.nil ?_
          refine CW.condB rfl (fun hc208 => ?_) (fun hc208 => ?_)
          · refine CW.seq ?_
            refine CW.region ?_
            refine WL.loadAgg (cs := [.int .i64 t.b, .complex .f64 t.re t.im]) ag26 rfl (ha10.up (Up.trans u16 (Up.trans u180 (Up.trans u198 u205)))) ?_
            refine WL.storeAll (vs := [.int .i64 t.b, .complex .f64 t.re t.im]) (by rw [ti26]; rfl) rfl rfl (by simp [Value.oneCell']) (Bk.ext (Bk.ext (Bk.ext hb14 he179) he196) he204) rfl (fun w209 hb210 hs211 => ?_)
            have e212 := Ext.stp e206 hs211 (fun k hk => by rw [hk]; exact Nat.le_trans (Stp.size e8) hg13)
            refine WL.assign rfl ?_
            refine WL.nil ?_
            refine CW.ret ?_
            refine Ret.cell2 (cs := [.int .i64 t.b, .complex .f64 t.re t.im]) rfl rfl ag26 hb210 rfl ?_
            refine ⟨?_, e212⟩
            have hcl : clash t x y ≠ true := by simp [clash, *]
            unfold AddR
            rw [if_neg hcl]
            refine ⟨r174, s175, hr177, hs178, ?_⟩
            have hjj := hc208; simp only [Bool.not_eq_true', Bool.not_eq_true, Bool.not_eq_false', Bool.not_eq_false] at hjj
            simp [J, Lt.cells, hjj]
          · refine CW.skip ?_
            refine CW.seq ?_
            refine CW.region ?_
            refine WL.loadAgg (cs := [.int .i64 t.b, .complex .f64 r174 s175]) ag26 rfl (ha201.up u205) ?_
            refine WL.storeAll (vs := [.int .i64 t.b, .complex .f64 r174 s175]) (by rw [ti26]; rfl) rfl rfl (by simp [Value.oneCell']) (Bk.ext (Bk.ext (Bk.ext hb14 he179) he196) he204) rfl (fun w213 hb214 hs215 => ?_)
            have e216 := Ext.stp e206 hs215 (fun k hk => by rw [hk]; exact Nat.le_trans (Stp.size e8) hg13)
            refine WL.assign rfl ?_
            refine WL.nil ?_
            refine CW.ret ?_
            refine Ret.cell2 (cs := [.int .i64 t.b, .complex .f64 r174 s175]) rfl rfl ag26 hb214 rfl ?_
            refine ⟨?_, e216⟩
            have hcl : clash t x y ≠ true := by simp [clash, *]
            unfold AddR
            rw [if_neg hcl]
            refine ⟨r174, s175, hr177, hs178, ?_⟩
            have hjj := hc208; simp only [Bool.not_eq_true', Bool.not_eq_true, Bool.not_eq_false', Bool.not_eq_false] at hjj
            simp [J, Lt.cells, hjj]
    · refine WL.gskip rfl rfl rfl ?_
      refine WL.gskip rfl rfl rfl ?_
      refine WL.gskip rfl rfl rfl ?_
      refine WL.gskip rfl rfl rfl ?_
      refine WL.gskip rfl rfl rfl ?_
      refine WL.uskip rfl rfl ?_
      refine WL.uskip rfl rfl ?_
      refine WL.uskip rfl rfl ?_
      refine WL.gskip rfl rfl rfl ?_
      refine WL.pickT rfl rfl ?_
      refine WL.nil ?_
      refine CW.condT rfl ?_
      refine CW.seq ?_
      refine CW.region ?_
      refine WL.loadAgg (cs := [.int .i64 t.b, .complex .f64 t.re t.im]) ag26 rfl (ha10.up u16) ?_
      have hb220 := hb14
      refine WL.storeAll (vs := [.int .i64 t.b, .complex .f64 t.re t.im]) (by rw [ti26]; rfl) rfl rfl (by simp [Value.oneCell']) hb220 rfl (fun w217 hb218 hs219 => ?_)
      have he221 : Ext w2 w217 := Stp.trans he15 hs219 (fun k hk => .inr (by rw [hk]; exact hg13))
      have hn222 := MB.fresh hm9 hg13
      have u223 := Ext.up he221 hm9
      have e224 := Ext.trans e8 he221
      have hm225 := Up.mb u223
      have ha226 := Bk.at_ hb218 hn222
      refine WL.assign rfl ?_
      refine WL.nil ?_
      refine CW.ret ?_
      refine Ret.cell2 (cs := [.int .i64 t.b, .complex .f64 t.re t.im]) rfl rfl ag26 hb218 rfl ?_
      refine ⟨?_, e224⟩
      have hcl : clash t x y = true := by simp [clash, *]
      unfold AddR
      rw [if_pos hcl]
      rfl

theorem Rows_spec (w : World) (M : MS) (hm : MB w M) :
    Fc Try.prog 59 #[] w fun v w' => Sl LRowR 3 w' M v lawRows ∧ Ext w w' := by
  have e0 := Stp.refl w (fun _ => False)
  refine Fc.enter (n := 30) [] Try.func59 rfl rfl (Nat.le_of_ble_eq_true rfl) (.nil _) ?_
  refine CW.seq ?_
  refine CW.region ?_
  refine WL.assign rfl ?_
  refine WL.nil ?_
  refine CW.seq ?_
  refine CW.region ?_
  refine WL.bslice Try.underlying29 ti3 rfl (by decide) (by decide) (.cons rfl (.cons rfl (.cons rfl (.cons rfl (.cons rfl (.cons rfl (.nil))))))) rfl (by simp [Value.cells]) (fun g1 w2 hg3 hb4 he5 => ?_)
  have hD6 := Bk.ints (xs := [97, 224, 225, 7843, 227, 7841]) hb4 (by decide) (MB.fresh hm hg3) (by decide)
  have u7 := Ext.up he5 hm
  have e8 := Ext.trans e0 he5
  have hm9 := Up.mb u7
  refine WL.buildP (cs := #[.int .i64 97, .int .i64 0, .slice (some ⟨g1, 0, none⟩) 6 6]) (.cons rfl (.cons rfl (.cons rfl (.nil)))) (by kernel_rfl) ?_
  refine WL.bslice Try.underlying29 ti3 rfl (by decide) (by decide) (.cons rfl (.cons rfl (.cons rfl (.cons rfl (.cons rfl (.cons rfl (.nil))))))) rfl (by simp [Value.cells]) (fun g10 w11 hg12 hb13 he14 => ?_)
  have hD15 := Bk.ints (xs := [259, 7857, 7855, 7859, 7861, 7863]) hb13 (by decide) (MB.fresh hm9 hg12) (by decide)
  have u16 := Ext.up he14 hm9
  have e17 := Ext.trans e8 he14
  have hm18 := Up.mb u16
  refine WL.buildP (cs := #[.int .i64 97, .int .i64 1, .slice (some ⟨g10, 0, none⟩) 6 6]) (.cons rfl (.cons rfl (.cons rfl (.nil)))) (by kernel_rfl) ?_
  refine WL.bslice Try.underlying29 ti3 rfl (by decide) (by decide) (.cons rfl (.cons rfl (.cons rfl (.cons rfl (.cons rfl (.cons rfl (.nil))))))) rfl (by simp [Value.cells]) (fun g19 w20 hg21 hb22 he23 => ?_)
  have hD24 := Bk.ints (xs := [226, 7847, 7845, 7849, 7851, 7853]) hb22 (by decide) (MB.fresh hm18 hg21) (by decide)
  have u25 := Ext.up he23 hm18
  have e26 := Ext.trans e17 he23
  have hm27 := Up.mb u25
  refine WL.buildP (cs := #[.int .i64 97, .int .i64 2, .slice (some ⟨g19, 0, none⟩) 6 6]) (.cons rfl (.cons rfl (.cons rfl (.nil)))) (by kernel_rfl) ?_
  refine WL.bslice Try.underlying29 ti3 rfl (by decide) (by decide) (.cons rfl (.cons rfl (.cons rfl (.cons rfl (.cons rfl (.cons rfl (.nil))))))) rfl (by simp [Value.cells]) (fun g28 w29 hg30 hb31 he32 => ?_)
  have hD33 := Bk.ints (xs := [101, 232, 233, 7867, 7869, 7865]) hb31 (by decide) (MB.fresh hm27 hg30) (by decide)
  have u34 := Ext.up he32 hm27
  have e35 := Ext.trans e26 he32
  have hm36 := Up.mb u34
  refine WL.buildP (cs := #[.int .i64 101, .int .i64 0, .slice (some ⟨g28, 0, none⟩) 6 6]) (.cons rfl (.cons rfl (.cons rfl (.nil)))) (by kernel_rfl) ?_
  refine WL.bslice Try.underlying29 ti3 rfl (by decide) (by decide) (.cons rfl (.cons rfl (.cons rfl (.cons rfl (.cons rfl (.cons rfl (.nil))))))) rfl (by simp [Value.cells]) (fun g37 w38 hg39 hb40 he41 => ?_)
  have hD42 := Bk.ints (xs := [234, 7873, 7871, 7875, 7877, 7879]) hb40 (by decide) (MB.fresh hm36 hg39) (by decide)
  have u43 := Ext.up he41 hm36
  have e44 := Ext.trans e35 he41
  have hm45 := Up.mb u43
  refine WL.buildP (cs := #[.int .i64 101, .int .i64 2, .slice (some ⟨g37, 0, none⟩) 6 6]) (.cons rfl (.cons rfl (.cons rfl (.nil)))) (by kernel_rfl) ?_
  refine WL.bslice Try.underlying29 ti3 rfl (by decide) (by decide) (.cons rfl (.cons rfl (.cons rfl (.cons rfl (.cons rfl (.cons rfl (.nil))))))) rfl (by simp [Value.cells]) (fun g46 w47 hg48 hb49 he50 => ?_)
  have hD51 := Bk.ints (xs := [105, 236, 237, 7881, 297, 7883]) hb49 (by decide) (MB.fresh hm45 hg48) (by decide)
  have u52 := Ext.up he50 hm45
  have e53 := Ext.trans e44 he50
  have hm54 := Up.mb u52
  refine WL.buildP (cs := #[.int .i64 105, .int .i64 0, .slice (some ⟨g46, 0, none⟩) 6 6]) (.cons rfl (.cons rfl (.cons rfl (.nil)))) (by kernel_rfl) ?_
  refine WL.bslice Try.underlying29 ti3 rfl (by decide) (by decide) (.cons rfl (.cons rfl (.cons rfl (.cons rfl (.cons rfl (.cons rfl (.nil))))))) rfl (by simp [Value.cells]) (fun g55 w56 hg57 hb58 he59 => ?_)
  have hD60 := Bk.ints (xs := [111, 242, 243, 7887, 245, 7885]) hb58 (by decide) (MB.fresh hm54 hg57) (by decide)
  have u61 := Ext.up he59 hm54
  have e62 := Ext.trans e53 he59
  have hm63 := Up.mb u61
  refine WL.buildP (cs := #[.int .i64 111, .int .i64 0, .slice (some ⟨g55, 0, none⟩) 6 6]) (.cons rfl (.cons rfl (.cons rfl (.nil)))) (by kernel_rfl) ?_
  refine WL.bslice Try.underlying29 ti3 rfl (by decide) (by decide) (.cons rfl (.cons rfl (.cons rfl (.cons rfl (.cons rfl (.cons rfl (.nil))))))) rfl (by simp [Value.cells]) (fun g64 w65 hg66 hb67 he68 => ?_)
  have hD69 := Bk.ints (xs := [244, 7891, 7889, 7893, 7895, 7897]) hb67 (by decide) (MB.fresh hm63 hg66) (by decide)
  have u70 := Ext.up he68 hm63
  have e71 := Ext.trans e62 he68
  have hm72 := Up.mb u70
  refine WL.buildP (cs := #[.int .i64 111, .int .i64 2, .slice (some ⟨g64, 0, none⟩) 6 6]) (.cons rfl (.cons rfl (.cons rfl (.nil)))) (by kernel_rfl) ?_
  refine WL.bslice Try.underlying29 ti3 rfl (by decide) (by decide) (.cons rfl (.cons rfl (.cons rfl (.cons rfl (.cons rfl (.cons rfl (.nil))))))) rfl (by simp [Value.cells]) (fun g73 w74 hg75 hb76 he77 => ?_)
  have hD78 := Bk.ints (xs := [417, 7901, 7899, 7903, 7905, 7907]) hb76 (by decide) (MB.fresh hm72 hg75) (by decide)
  have u79 := Ext.up he77 hm72
  have e80 := Ext.trans e71 he77
  have hm81 := Up.mb u79
  refine WL.buildP (cs := #[.int .i64 111, .int .i64 3, .slice (some ⟨g73, 0, none⟩) 6 6]) (.cons rfl (.cons rfl (.cons rfl (.nil)))) (by kernel_rfl) ?_
  refine WL.bslice Try.underlying29 ti3 rfl (by decide) (by decide) (.cons rfl (.cons rfl (.cons rfl (.cons rfl (.cons rfl (.cons rfl (.nil))))))) rfl (by simp [Value.cells]) (fun g82 w83 hg84 hb85 he86 => ?_)
  have hD87 := Bk.ints (xs := [117, 249, 250, 7911, 361, 7909]) hb85 (by decide) (MB.fresh hm81 hg84) (by decide)
  have u88 := Ext.up he86 hm81
  have e89 := Ext.trans e80 he86
  have hm90 := Up.mb u88
  refine WL.buildP (cs := #[.int .i64 117, .int .i64 0, .slice (some ⟨g82, 0, none⟩) 6 6]) (.cons rfl (.cons rfl (.cons rfl (.nil)))) (by kernel_rfl) ?_
  refine WL.bslice Try.underlying29 ti3 rfl (by decide) (by decide) (.cons rfl (.cons rfl (.cons rfl (.cons rfl (.cons rfl (.cons rfl (.nil))))))) rfl (by simp [Value.cells]) (fun g91 w92 hg93 hb94 he95 => ?_)
  have hD96 := Bk.ints (xs := [432, 7915, 7913, 7917, 7919, 7921]) hb94 (by decide) (MB.fresh hm90 hg93) (by decide)
  have u97 := Ext.up he95 hm90
  have e98 := Ext.trans e89 he95
  have hm99 := Up.mb u97
  refine WL.buildP (cs := #[.int .i64 117, .int .i64 3, .slice (some ⟨g91, 0, none⟩) 6 6]) (.cons rfl (.cons rfl (.cons rfl (.nil)))) (by kernel_rfl) ?_
  refine WL.bslice Try.underlying29 ti3 rfl (by decide) (by decide) (.cons rfl (.cons rfl (.cons rfl (.cons rfl (.cons rfl (.cons rfl (.nil))))))) rfl (by simp [Value.cells]) (fun g100 w101 hg102 hb103 he104 => ?_)
  have hD105 := Bk.ints (xs := [121, 7923, 253, 7927, 7929, 7925]) hb103 (by decide) (MB.fresh hm99 hg102) (by decide)
  have u106 := Ext.up he104 hm99
  have e107 := Ext.trans e98 he104
  have hm108 := Up.mb u106
  refine WL.buildP (cs := #[.int .i64 121, .int .i64 0, .slice (some ⟨g100, 0, none⟩) 6 6]) (.cons rfl (.cons rfl (.cons rfl (.nil)))) (by kernel_rfl) ?_
  refine WL.bslice Try.underlying29 ti3 rfl (by decide) (by decide) (.cons rfl (.nil)) rfl (by simp [Value.cells]) (fun g109 w110 hg111 hb112 he113 => ?_)
  have hD114 := Bk.ints (xs := [100]) hb112 (by decide) (MB.fresh hm108 hg111) (by decide)
  have u115 := Ext.up he113 hm108
  have e116 := Ext.trans e107 he113
  have hm117 := Up.mb u115
  refine WL.buildP (cs := #[.int .i64 100, .int .i64 0, .slice (some ⟨g109, 0, none⟩) 1 1]) (.cons rfl (.cons rfl (.cons rfl (.nil)))) (by kernel_rfl) ?_
  refine WL.bslice Try.underlying29 ti3 rfl (by decide) (by decide) (.cons rfl (.nil)) rfl (by simp [Value.cells]) (fun g118 w119 hg120 hb121 he122 => ?_)
  have hD123 := Bk.ints (xs := [273]) hb121 (by decide) (MB.fresh hm117 hg120) (by decide)
  have u124 := Ext.up he122 hm117
  have e125 := Ext.trans e116 he122
  have hm126 := Up.mb u124
  refine WL.buildP (cs := #[.int .i64 100, .int .i64 4, .slice (some ⟨g118, 0, none⟩) 1 1]) (.cons rfl (.cons rfl (.cons rfl (.nil)))) (by kernel_rfl) ?_
  refine WL.bslice Try.underlying89 ti92 rfl (by decide) (by decide) (.cons rfl (.cons rfl (.cons rfl (.cons rfl (.cons rfl (.cons rfl (.cons rfl (.cons rfl (.cons rfl (.cons rfl (.cons rfl (.cons rfl (.cons rfl (.cons rfl (.nil))))))))))))))) rfl (by simp [Value.cells]) (fun g w1 hg hb he => ?_)
  have u127 := Ext.up he hm126
  have e128 := Ext.trans e125 he
  have hm129 := Up.mb u127
  have hb2 : Bk w1 g 92 ([[.int .i64 97, .int .i64 0, .slice (some ⟨g1, 0, none⟩) 6 6], [.int .i64 97, .int .i64 1, .slice (some ⟨g10, 0, none⟩) 6 6], [.int .i64 97, .int .i64 2, .slice (some ⟨g19, 0, none⟩) 6 6], [.int .i64 101, .int .i64 0, .slice (some ⟨g28, 0, none⟩) 6 6], [.int .i64 101, .int .i64 2, .slice (some ⟨g37, 0, none⟩) 6 6], [.int .i64 105, .int .i64 0, .slice (some ⟨g46, 0, none⟩) 6 6], [.int .i64 111, .int .i64 0, .slice (some ⟨g55, 0, none⟩) 6 6], [.int .i64 111, .int .i64 2, .slice (some ⟨g64, 0, none⟩) 6 6], [.int .i64 111, .int .i64 3, .slice (some ⟨g73, 0, none⟩) 6 6], [.int .i64 117, .int .i64 0, .slice (some ⟨g82, 0, none⟩) 6 6], [.int .i64 117, .int .i64 3, .slice (some ⟨g91, 0, none⟩) 6 6], [.int .i64 121, .int .i64 0, .slice (some ⟨g100, 0, none⟩) 6 6], [.int .i64 100, .int .i64 0, .slice (some ⟨g109, 0, none⟩) 1 1], [.int .i64 100, .int .i64 4, .slice (some ⟨g118, 0, none⟩) 1 1]] : List (List Value)).flatten := hb
  have hn := MB.fresh hm126 hg
  have hD := Bk.sl2 (R := LRowR) (sz := 3) (ys := lawRows) hb2 (.cons ⟨rfl, _, rfl, (SlD.sl (hD6.up (Up.trans u16 (Up.trans u25 (Up.trans u34 (Up.trans u43 (Up.trans u52 (Up.trans u61 (Up.trans u70 (Up.trans u79 (Up.trans u88 (Up.trans u97 (Up.trans u106 (Up.trans u115 (Up.trans u124 u127)))))))))))))))⟩ (.cons ⟨rfl, _, rfl, (SlD.sl (hD15.up (Up.trans u25 (Up.trans u34 (Up.trans u43 (Up.trans u52 (Up.trans u61 (Up.trans u70 (Up.trans u79 (Up.trans u88 (Up.trans u97 (Up.trans u106 (Up.trans u115 (Up.trans u124 u127))))))))))))))⟩ (.cons ⟨rfl, _, rfl, (SlD.sl (hD24.up (Up.trans u34 (Up.trans u43 (Up.trans u52 (Up.trans u61 (Up.trans u70 (Up.trans u79 (Up.trans u88 (Up.trans u97 (Up.trans u106 (Up.trans u115 (Up.trans u124 u127)))))))))))))⟩ (.cons ⟨rfl, _, rfl, (SlD.sl (hD33.up (Up.trans u43 (Up.trans u52 (Up.trans u61 (Up.trans u70 (Up.trans u79 (Up.trans u88 (Up.trans u97 (Up.trans u106 (Up.trans u115 (Up.trans u124 u127))))))))))))⟩ (.cons ⟨rfl, _, rfl, (SlD.sl (hD42.up (Up.trans u52 (Up.trans u61 (Up.trans u70 (Up.trans u79 (Up.trans u88 (Up.trans u97 (Up.trans u106 (Up.trans u115 (Up.trans u124 u127)))))))))))⟩ (.cons ⟨rfl, _, rfl, (SlD.sl (hD51.up (Up.trans u61 (Up.trans u70 (Up.trans u79 (Up.trans u88 (Up.trans u97 (Up.trans u106 (Up.trans u115 (Up.trans u124 u127))))))))))⟩ (.cons ⟨rfl, _, rfl, (SlD.sl (hD60.up (Up.trans u70 (Up.trans u79 (Up.trans u88 (Up.trans u97 (Up.trans u106 (Up.trans u115 (Up.trans u124 u127)))))))))⟩ (.cons ⟨rfl, _, rfl, (SlD.sl (hD69.up (Up.trans u79 (Up.trans u88 (Up.trans u97 (Up.trans u106 (Up.trans u115 (Up.trans u124 u127))))))))⟩ (.cons ⟨rfl, _, rfl, (SlD.sl (hD78.up (Up.trans u88 (Up.trans u97 (Up.trans u106 (Up.trans u115 (Up.trans u124 u127)))))))⟩ (.cons ⟨rfl, _, rfl, (SlD.sl (hD87.up (Up.trans u97 (Up.trans u106 (Up.trans u115 (Up.trans u124 u127))))))⟩ (.cons ⟨rfl, _, rfl, (SlD.sl (hD96.up (Up.trans u106 (Up.trans u115 (Up.trans u124 u127)))))⟩ (.cons ⟨rfl, _, rfl, (SlD.sl (hD105.up (Up.trans u115 (Up.trans u124 u127))))⟩ (.cons ⟨rfl, _, rfl, (SlD.sl (hD114.up (Up.trans u124 u127)))⟩ (.cons ⟨rfl, _, rfl, (SlD.sl (hD123.up u127))⟩ (.nil))))))))))))))) hn (by decide)
  refine WL.assign rfl ?_
  refine WL.nil ?_
  refine CW.ret ?_
  refine Ret.one rfl rfl ?_
  exact ⟨⟨_, _, rfl, hD⟩, e128⟩

theorem Letter_spec (w : World) (M : MS) (hm : MB w M) {a : Nat} (ha : a < 148) :
    Fc Try.prog 18 #[.int .i64 (a : Int)] w fun v w' => (∃ q, vietAll[a]? = some q ∧ v = .tuple #[.agg #[.int .i64 q.1.b, .complex .f64 q.1.re q.1.im], .int .i64 q.2, .bool true]) ∧ Ext w w' := by
  have e0 := Stp.refl w (fun _ => False)
  have hll : lawRows.length = 14 := rfl
  refine Fc.enter (n := 55) [(0, .int .i64 (a : Int))] Try.func18 rfl rfl (Nat.le_of_ble_eq_true rfl) (.cons rfl (.nil _)) ?_
  refine CW.seq ?_
  refine CW.region ?_
  refine WL.alloc (cs := [.int .i64 0, .complex .f64 0 0]) ti26 rfl (fun g1 w2 hg3 hb4 he5 => ?_)
  have u6 := Ext.up he5 hm
  have e7 := Ext.trans e0 he5
  have hm8 := Up.mb u6
  refine WL.assign rfl ?_
  refine WL.assign rfl ?_
  refine WL.nil ?_
  refine CW.seq ?_
  refine CW.region ?_
  refine WL.assign rfl ?_
  refine WL.nil ?_
  refine CW.seq ?_
  refine CW.seq ?_
  refine CW.region ?_
  refine WL.assign rfl ?_
  refine WL.nil ?_
  refine CW.block ?_
  refine CW.loop (fun m σ wr0 => ∃ i : Nat, ∃ k0 : Nat, m = 2 - i ∧ σ = [(0, .int .i64 (a : Int)), (2, .pointer (some ⟨g1, 0, none⟩)), (5, .int .i64 (k0 : Int)), (6, .int .i64 (i : Int))] ∧ (Up w2 M wr0 M) ∧ (Ext w wr0) ∧ (Ext w2 wr0) ∧ (i ≤ 2) ∧ (k0 = 74 * i) ∧ (k0 ≤ a)) _ _ (.cons (t := 0) rfl (.cons (t := 2) rfl (.cons (t := 5) rfl (.cons (t := 6) rfl (.nil _))))) ⟨0, 0, rfl, rfl, Up.refl hm8, e7, Stp.refl _ _, by omega, rfl, by omega⟩ ?_
  rintro m _ wr0 ⟨i, k0, rfl, rfl, hU9, hE10, hX13, hi, hk0, hka0⟩
  have hm11 := Up.mb hU9
  refine CW.seq ?_
  refine CW.seq ?_
  refine CW.region ?_
  refine WL.move rfl ?_
  refine WL.lss rfl rfl ?_
  refine WL.nil ?_
  refine CW.condP rfl (fun hc14 => ?_) (fun hc14 => ?_)
  · refine CW.skip ?_
    refine CW.seq ?_
    refine CW.block ?_
    refine CW.seq ?_
    refine CW.region ?_
    refine WL.call Try.func59 rfl rfl .nil (Rows_spec _ _ hm11) (fun _ w18 hr19 => ?_)
    obtain ⟨⟨A15, c16, rfl, hD17⟩, he20⟩ := hr19
    have u21 := Ext.up he20 hm11
    have e22 := Ext.trans hE10 he20
    have hm23 := Up.mb u21
    refine WL.len Try.underlying89 rfl ?_
    refine WL.move rfl ?_
    refine WL.nil ?_
    refine CW.block ?_
    refine CW.loop (fun m σ wr1 => ∃ j : Nat, ∃ k1 : Nat, m = 14 - j ∧ σ = [(0, .int .i64 (a : Int)), (2, .pointer (some ⟨g1, 0, none⟩)), (5, .int .i64 (k1 : Int)), (6, .int .i64 (i : Int)), (16, .slice A15 lawRows.length c16), (17, .int .i64 (lawRows.length : Int)), (18, .int .i64 (j : Int))] ∧ (Up w18 M wr1 M) ∧ (Ext w wr1) ∧ (Ext w18 wr1) ∧ (j ≤ 14) ∧ (k1 = 74 * i + rpos j) ∧ (k1 ≤ a)) _ _ (.cons (t := 0) rfl (.cons (t := 2) rfl (.cons (t := 5) rfl (.cons (t := 6) rfl (.cons (t := 16) rfl (.cons (t := 17) rfl (.cons (t := 18) rfl (.nil _)))))))) ⟨0, k0, rfl, rfl, Up.refl hm23, e22, Stp.refl _ _, by omega, by have : rpos 0 = 0 := rfl; omega, by omega⟩ ?_
    rintro m _ wr1 ⟨j, k1, rfl, rfl, hU24, hE25, hX28, hj, hk1, hka1⟩
    have hm26 := Up.mb hU24
    refine CW.seq ?_
    refine CW.region ?_
    refine WL.lss rfl rfl ?_
    refine WL.nil ?_
    refine CW.seq ?_
    refine CW.condP rfl (fun hc29 => ?_) (fun hc29 => ?_)
    · have hjl : j < lawRows.length := by omega
      obtain ⟨hrp, hb1, hb2, hm1, hm2⟩ := lrow_ok hjl
      refine CW.skip ?_
      refine CW.seq ?_
      refine CW.block ?_
      refine CW.seq ?_
      refine CW.region ?_
      have hlt30 : j < lawRows.length := by omega
      obtain ⟨ad31, cs32, hA33, hs34, hat35, hR36⟩ := SlD.get (hD17.up hU24) (List.getElem?_eq_getElem hlt30)
      obtain ⟨_, hx38, A39, c40, rfl, hD41⟩ := hR36
      rw [hx38] at hat35
      refine WL.idx es89 rfl rfl hA33 (by omega) (by omega) ?_
      refine WL.loadAgg (cs := [.int .i64 (lawRows[j].b), .int .i64 (lawRows[j].m), .slice A39 (lawRows[j].xs.length) c40]) ag92 rfl hat35 ?_
      refine WL.alloc (cs := [.int .i64 0, .int .i64 0, .slice none 0 0]) ti92 rfl (fun g42 w43 hg44 hb45 he46 => ?_)
      have ne47 : g1 ≠ g42 := by have h1 := Bk.lt (Bk.ext (Bk.ext (Bk.ext hb4 hX13) he20) hX28); have h2 := hg44; omega
      have u48 := Ext.up he46 hm26
      have e49 := Ext.trans hE25 he46
      have hm50 := Up.mb u48
      have hb54 := hb45
      refine WL.storeAll (vs := [.int .i64 (lawRows[j].b), .int .i64 (lawRows[j].m), .slice A39 (lawRows[j].xs.length) c40]) (by rw [ti92]; rfl) rfl rfl (by simp [Value.oneCell']) hb54 rfl (fun w51 hb52 hs53 => ?_)
      have he55 : Ext wr1 w51 := Stp.trans he46 hs53 (fun k hk => .inr (by rw [hk]; exact hg44))
      have hn56 := MB.fresh hm26 hg44
      have u57 := Ext.up he55 hm26
      have e58 := Ext.trans hE25 he55
      have hm59 := Up.mb u57
      have ha60 := Bk.at_ hb52 hn56
      refine WL.nil ?_
      refine CW.seq ?_
      refine CW.region ?_
      refine WL.fieldAddr fo92_2 rfl ?_
      refine WL.load sc29 rfl (ha60.cell 2 _ rfl) ?_
      refine WL.len Try.underlying29 rfl ?_
      refine WL.move rfl ?_
      refine WL.nil ?_
      refine CW.block ?_
      refine CW.loop (fun m σ wr2 => ∃ t : Nat, ∃ k2 : Nat, m = lawRows[j].xs.length - t ∧ σ = [(0, .int .i64 (a : Int)), (2, .pointer (some ⟨g1, 0, none⟩)), (5, .int .i64 (k2 : Int)), (6, .int .i64 (i : Int)), (8, .pointer (some ⟨g42, 0, none⟩)), (16, .slice A15 lawRows.length c16), (17, .int .i64 (lawRows.length : Int)), (18, .int .i64 (j : Int)), (23, .slice A39 (lawRows[j].xs.length) c40), (24, .int .i64 (lawRows[j].xs.length : Int)), (25, .int .i64 (t : Int))] ∧ (Up w51 M wr2 M) ∧ (Ext w wr2) ∧ (Ext w51 wr2) ∧ (t ≤ lawRows[j].xs.length) ∧ (k2 = 74 * i + rpos j + t) ∧ (k2 ≤ a)) _ _ (.cons (t := 0) rfl (.cons (t := 2) rfl (.cons (t := 5) rfl (.cons (t := 6) rfl (.cons (t := 8) rfl (.cons (t := 16) rfl (.cons (t := 17) rfl (.cons (t := 18) rfl (.cons (t := 23) rfl (.cons (t := 24) rfl (.cons (t := 25) rfl (.nil _)))))))))))) ⟨0, k1, rfl, rfl, Up.refl hm59, e58, Stp.refl _ _, by omega, by omega, by omega⟩ ?_
      rintro m _ wr2 ⟨t, k2, rfl, rfl, hU61, hE62, hX65, ht, hk2, hka2⟩
      have hm63 := Up.mb hU61
      refine CW.seq ?_
      refine CW.region ?_
      refine WL.lss rfl rfl ?_
      refine WL.nil ?_
      refine CW.seq ?_
      refine CW.condP rfl (fun hc66 => ?_) (fun hc66 => ?_)
      · have htl : t < lawRows[j].xs.length := by omega
        obtain ⟨hx1, hx2, hq⟩ := llet_ok (show i < 2 by omega) hjl htl
        refine CW.skip ?_
        refine CW.seq ?_
        refine CW.block ?_
        refine CW.seq ?_
        refine CW.region ?_
        refine WL.move rfl ?_
        have hlt67 : t < (lawRows[j].xs).length := by omega
        obtain ⟨ad68, cs69, hA70, hs71, hat72, hR73⟩ := SlD.get (hD41.up (Up.trans u57 hU61)) (List.getElem?_eq_getElem hlt67)
        rw [show _ = _ from hR73.1] at hat72
        have hhR73 := hR73.2; simp only [I64] at hhR73
        refine WL.idx es29 rfl rfl hA70 (by omega) (by omega) ?_
        refine WL.load sc3 rfl (hat72.cell 0 _ rfl) ?_
        refine WL.assign rfl ?_
        refine WL.assign rfl ?_
        refine WL.nil ?_
        refine CW.seq ?_
        refine CW.seq ?_
        refine CW.region ?_
        refine WL.move rfl ?_
        refine WL.move rfl ?_
        refine WL.eql rfl rfl ?_
        refine WL.nil ?_
        refine CW.condP rfl (fun hc74 => ?_) (fun hc74 => ?_)
        · refine CW.seq ?_
          refine CW.region ?_
          refine WL.fieldAddr fo92_0 rfl ?_
          refine WL.load sc3 rfl ((ha60.up hU61).cell 0 _ rfl) ?_
          refine WL.assign rfl ?_
          refine WL.nil ?_
          refine CW.seq ?_
          refine CW.seq ?_
          refine CW.region ?_
          refine WL.move rfl ?_
          refine WL.eql rfl rfl ?_
          refine WL.nil ?_
          refine CW.condP rfl (fun hc75 => ?_) (fun hc75 => ?_)
          · have hi1 : i = 1 := by omega
            refine CW.region ?_
            refine WL.move rfl ?_
            refine WL.call Try.func60 rfl rfl (.cons rfl .nil) (upper_spec _ _ hm63 (by omega) (by omega)) (fun _ w76 hr77 => ?_)
            obtain ⟨rfl, he78⟩ := hr77
            have u79 := Ext.up he78 hm63
            have e80 := Ext.trans hE62 he78
            have hm81 := Up.mb u79
            refine WL.move rfl ?_
            refine WL.call Try.func60 rfl rfl (.cons rfl .nil) (upper_spec _ _ hm81 (by omega) (by omega)) (fun _ w82 hr83 => ?_)
            obtain ⟨rfl, he84⟩ := hr83
            have u85 := Ext.up he84 hm81
            have e86 := Ext.trans e80 he84
            have hm87 := Up.mb u85
            refine WL.assign rfl ?_
            refine WL.assign rfl ?_
            refine WL.nil ?_
            refine CW.seq ?_
            refine CW.region ?_
            refine WL.move rfl ?_
            refine WL.fieldAddr fo92_1 rfl ?_
            refine WL.load sc3 rfl ((ha60.up (Up.trans hU61 (Up.trans u79 u85))).cell 1 _ rfl) ?_
            refine WL.convF (by rw [Try.underlying3]; rfl) Try.underlying22 rfl ?_
            refine WL.move rfl ?_
            refine WL.convF (by rw [Try.underlying3]; rfl) Try.underlying22 rfl ?_
            refine WL.cplx rfl rfl ?_
            refine WL.buildP (cs := #[.int .i64 (upperI (lawRows[j].b)), .complex .f64 (fb (lawRows[j].m)) (fb (t : Int))]) (.cons rfl (.cons rfl (.nil))) (by kernel_rfl) ?_
            refine WL.move rfl ?_
            refine WL.storeAll (vs := [.int .i64 (upperI (lawRows[j].b)), .complex .f64 (fb (lawRows[j].m)) (fb (t : Int))]) (by rw [ti26]; rfl) rfl rfl (by simp [Value.oneCell']) (Bk.ext (Bk.ext (Bk.ext (Bk.ext (Bk.ext (Bk.ext (Bk.ext hb4 hX13) he20) hX28) he55) hX65) he78) he84) rfl (fun w88 hb89 hs90 => ?_)
            have e91 := Ext.stp e86 hs90 (fun k hk => by rw [hk]; exact Nat.le_trans (Stp.size e0) hg3)
            refine WL.assign rfl ?_
            refine WL.assign rfl ?_
            refine WL.nil ?_
            refine CW.ret ?_
            refine Ret.cell3 (cs := [.int .i64 (upperI (lawRows[j].b)), .complex .f64 (fb (lawRows[j].m)) (fb (t : Int))]) rfl rfl ag26 hb89 rfl rfl ?_
            exact ⟨⟨_, by rw [show a = 74 * i + rpos j + t by omega]; exact hq, by simp [hi1]⟩, e91⟩
          · have hi1 : ¬ i = 1 := by omega
            refine CW.skip ?_
            refine CW.seq ?_
            refine CW.region ?_
            refine WL.move rfl ?_
            refine WL.fieldAddr fo92_1 rfl ?_
            refine WL.load sc3 rfl ((ha60.up hU61).cell 1 _ rfl) ?_
            refine WL.convF (by rw [Try.underlying3]; rfl) Try.underlying22 rfl ?_
            refine WL.move rfl ?_
            refine WL.convF (by rw [Try.underlying3]; rfl) Try.underlying22 rfl ?_
            refine WL.cplx rfl rfl ?_
            refine WL.buildP (cs := #[.int .i64 (lawRows[j].b), .complex .f64 (fb (lawRows[j].m)) (fb (t : Int))]) (.cons rfl (.cons rfl (.nil))) (by kernel_rfl) ?_
            refine WL.move rfl ?_
            refine WL.storeAll (vs := [.int .i64 (lawRows[j].b), .complex .f64 (fb (lawRows[j].m)) (fb (t : Int))]) (by rw [ti26]; rfl) rfl rfl (by simp [Value.oneCell']) (Bk.ext (Bk.ext (Bk.ext (Bk.ext (Bk.ext hb4 hX13) he20) hX28) he55) hX65) rfl (fun w92 hb93 hs94 => ?_)
            have e95 := Ext.stp hE62 hs94 (fun k hk => by rw [hk]; exact Nat.le_trans (Stp.size e0) hg3)
            refine WL.assign rfl ?_
            refine WL.assign rfl ?_
            refine WL.nil ?_
            refine CW.ret ?_
            refine Ret.cell3 (cs := [.int .i64 (lawRows[j].b), .complex .f64 (fb (lawRows[j].m)) (fb (t : Int))]) rfl rfl ag26 hb93 rfl rfl ?_
            exact ⟨⟨_, by rw [show a = 74 * i + rpos j + t by omega]; exact hq, by simp [hi1]⟩, e95⟩
        · refine CW.skip ?_
          refine CW.region ?_
          refine WL.move rfl ?_
          refine WL.add rfl rfl (by omega) ?_
          refine WL.assign rfl ?_
          refine WL.nil ?_
          refine CW.region ?_
          refine WL.add rfl rfl (by omega) ?_
          refine WL.move rfl ?_
          refine WL.nil ?_
          refine Loop.again _ _ ?_ ?_ ⟨t + 1, k2 + 1, rfl, rfl, hU61, hE62, hX65, by omega, by omega, by omega⟩
          · omega
          · exact .cons (t := 0) rfl (.cons (t := 2) rfl (.cons (t := 5) rfl (.cons (t := 6) rfl (.cons (t := 8) rfl (.cons (t := 16) rfl (.cons (t := 17) rfl (.cons (t := 18) rfl (.cons (t := 23) rfl (.cons (t := 24) rfl (.cons (t := 25) rfl (.nil _)))))))))))
      · refine CW.exit ?_
        refine CW.region ?_
        refine WL.add rfl rfl (by omega) ?_
        refine WL.move rfl ?_
        refine WL.nil ?_
        refine Loop.again _ _ ?_ ?_ ⟨j + 1, k2, rfl, rfl, (Up.trans hU24 (Up.trans u57 hU61)), hE62, (Ext.trans (Ext.trans hX28 he55) hX65), by omega, by omega, by omega⟩
        · omega
        · exact .cons (t := 0) rfl (.cons (t := 2) rfl (.cons (t := 5) rfl (.cons (t := 6) rfl (.cons (t := 16) rfl (.cons (t := 17) rfl (.cons (t := 18) rfl (.nil _)))))))
    · refine CW.exit ?_
      refine CW.region ?_
      refine WL.move rfl ?_
      refine WL.add rfl rfl (by omega) ?_
      refine WL.assign rfl ?_
      refine WL.nil ?_
      have hj14 : j = 14 := by omega
      subst hj14
      have hr14 : rpos 14 = 74 := rfl
      refine Loop.again _ _ ?_ ?_ ⟨i + 1, k1, rfl, rfl, (Up.trans hU9 (Up.trans u21 hU24)), hE25, (Ext.trans (Ext.trans hX13 he20) hX28), by omega, by omega, by omega⟩
      · omega
      · exact .cons (t := 0) rfl (.cons (t := 2) rfl (.cons (t := 5) rfl (.cons (t := 6) rfl (.nil _))))
  · refine CW.exit ?_
    refine CW.seq ?_
    refine CW.region ?_
    refine WL.buildP (cs := #[.int .i64 0, .complex .f64 0 0]) (.nil) (by kernel_rfl) ?_
    have hb99 := (Bk.ext hb4 hX13)
    refine WL.storeAll (vs := [.int .i64 0, .complex .f64 0 0]) (by rw [ti26]; rfl) rfl rfl (by simp [Value.oneCell']) hb99 rfl (fun w96 hb97 hs98 => ?_)
    have he100 : Ext w w96 := Stp.trans (Ext.trans he5 hX13) hs98 (fun k hk => .inr (by rw [hk]; exact hg3))
    have hn101 := MB.fresh hm hg3
    have u102 := Ext.up he100 hm
    have e103 := Ext.trans e0 he100
    have hm104 := Up.mb u102
    have ha105 := Bk.at_ hb97 hn101
    refine WL.assign rfl ?_
    refine WL.assign rfl ?_
    refine WL.nil ?_
    refine CW.ret ?_
    refine Ret.cell3 (cs := [.int .i64 0, .complex .f64 0 0]) rfl rfl ag26 hb97 rfl rfl ?_
    exfalso; omega

theorem LJoin_spec (w : World) (M : MS) (hm : MB w M) (b : Int) (x y : Nat) :
    Fc Try.prog 21 #[.int .i64 b, .float .f64 x, .float .f64 y] w fun v w' => (∃ c, v = .tuple #[.int .i64 c, .bool (J b x y)]) ∧ Ext w w' := by
  have e0 := Stp.refl w (fun _ => False)
  have hvl := vietAll_len
  refine Fc.enter (n := 41) [(0, .int .i64 b), (1, .float .f64 x), (2, .float .f64 y)] Try.func21 rfl rfl (Nat.le_of_ble_eq_true rfl) (.cons rfl (.cons rfl (.cons rfl (.nil _)))) ?_
  refine CW.seq ?_
  refine CW.region ?_
  refine WL.assign rfl ?_
  refine WL.assign rfl ?_
  refine WL.nil ?_
  refine CW.seq ?_
  refine CW.seq ?_
  refine CW.region ?_
  refine WL.assign rfl ?_
  refine WL.nil ?_
  refine CW.block ?_
  refine CW.loop (fun m σ wr0 => ∃ j : Nat, m = 148 - j ∧ σ = [(0, .int .i64 b), (1, .float .f64 x), (2, .float .f64 y), (8, .int .i64 (j : Int))] ∧ (Up w M wr0 M) ∧ (Ext w wr0) ∧ (Ext w wr0) ∧ (j ≤ 148) ∧ ((vietAll.take j).find? (joinP b x y) = none)) _ _ (.cons (t := 0) rfl (.cons (t := 1) rfl (.cons (t := 2) rfl (.cons (t := 8) rfl (.nil _))))) ⟨0, rfl, rfl, Up.refl hm, e0, Stp.refl _ _, by omega, find_start⟩ ?_
  rintro m _ wr0 ⟨j, rfl, rfl, hU1, hE2, hX5, hj, hf⟩
  have hm3 := Up.mb hU1
  refine CW.seq ?_
  refine CW.seq ?_
  refine CW.region ?_
  refine WL.move rfl ?_
  refine WL.lss rfl rfl ?_
  refine WL.nil ?_
  refine CW.condP rfl (fun hc6 => ?_) (fun hc6 => ?_)
  · refine CW.skip ?_
    refine CW.seq ?_
    refine CW.block ?_
    refine CW.seq ?_
    refine CW.region ?_
    refine WL.move rfl ?_
    refine WL.call Try.func18 rfl rfl (.cons rfl .nil) (Letter_spec _ _ hm3 (a := j) (by omega)) (fun _ w9 hr10 => ?_)
    obtain ⟨⟨q7, hq8, rfl⟩, he11⟩ := hr10
    have u12 := Ext.up he11 hm3
    have e13 := Ext.trans hE2 he11
    have hm14 := Up.mb u12
    refine WL.move rfl ?_
    refine WL.extract rfl rfl ?_
    refine WL.extract rfl rfl ?_
    refine WL.extract rfl rfl ?_
    refine WL.alloc (cs := [.int .i64 0, .complex .f64 0 0]) ti26 rfl (fun g15 w16 hg17 hb18 he19 => ?_)
    have u20 := Ext.up he19 hm14
    have e21 := Ext.trans e13 he19
    have hm22 := Up.mb u20
    have hb26 := hb18
    refine WL.storeAll (vs := [.int .i64 q7.1.b, .complex .f64 q7.1.re q7.1.im]) (by rw [ti26]; rfl) rfl rfl (by simp [Value.oneCell']) hb26 rfl (fun w23 hb24 hs25 => ?_)
    have he27 : Ext w9 w23 := Stp.trans he19 hs25 (fun k hk => .inr (by rw [hk]; exact hg17))
    have hn28 := MB.fresh hm14 hg17
    have u29 := Ext.up he27 hm14
    have e30 := Ext.trans e13 he27
    have hm31 := Up.mb u29
    have ha32 := Bk.at_ hb24 hn28
    refine WL.assign rfl ?_
    refine WL.assign rfl ?_
    refine WL.nil ?_
    refine CW.seq ?_
    refine CW.region ?_
    refine WL.fieldAddr fo26_0 rfl ?_
    refine WL.load sc3 rfl (ha32.cell 0 _ rfl) ?_
    refine WL.move rfl ?_
    refine WL.eql rfl rfl ?_
    refine WL.move rfl ?_
    by_cases hg33 : q7.1.b = b
    · refine WL.gtake rfl rfl (decide_eq_true hg33) ?_
      refine WL.fieldAddr fo26_1 rfl ?_
      refine WL.gtake rfl rfl (decide_eq_true hg33) ?_
      refine WL.load sc24 rfl (ha32.cell 1 _ rfl) ?_
      refine WL.gtake rfl rfl (decide_eq_true hg33) ?_
      refine WL.real rfl ?_
      refine WL.gtake rfl rfl (decide_eq_true hg33) ?_
      refine WL.move rfl ?_
      refine WL.gtake rfl rfl (decide_eq_true hg33) ?_
      refine WL.feq rfl rfl ?_
      refine WL.pickT (congrArg (fun b => some (Value.bool b)) (decide_eq_true hg33)) rfl ?_
      refine WL.move rfl ?_
      cases hg34 : fe q7.1.re x
      · refine WL.gskip rfl rfl rfl ?_
        refine WL.gskip rfl rfl rfl ?_
        refine WL.gskip rfl rfl rfl ?_
        refine WL.gskip rfl rfl rfl ?_
        refine WL.gskip rfl rfl rfl ?_
        refine WL.pickF rfl rfl ?_
        refine WL.nil ?_
        refine CW.condF rfl ?_
        refine CW.skip ?_
        refine CW.region ?_
        refine WL.move rfl ?_
        refine WL.add rfl rfl (by omega) ?_
        refine WL.assign rfl ?_
        refine WL.nil ?_
        have hqe : vietAll[j] = q7 := by have := hq8; rw [List.getElem?_eq_getElem (by omega)] at this; exact Option.some.inj this
        refine Loop.again _ _ ?_ ?_ ⟨j + 1, rfl, rfl, (Up.trans hU1 (Up.trans u12 u29)), e30, (Ext.trans (Ext.trans hX5 he11) he27), by omega, find_next (by omega) hf (by rw [hqe]; simp [joinP, *])⟩
        · omega
        · exact .cons (t := 0) rfl (.cons (t := 1) rfl (.cons (t := 2) rfl (.cons (t := 8) rfl (.nil _))))
      · refine WL.gtake rfl rfl rfl ?_
        refine WL.fieldAddr fo26_1 rfl ?_
        refine WL.gtake rfl rfl rfl ?_
        refine WL.load sc24 rfl (ha32.cell 1 _ rfl) ?_
        refine WL.gtake rfl rfl rfl ?_
        refine WL.imag rfl ?_
        refine WL.gtake rfl rfl rfl ?_
        refine WL.move rfl ?_
        refine WL.gtake rfl rfl rfl ?_
        refine WL.feq rfl rfl ?_
        refine WL.pickT rfl rfl ?_
        refine WL.nil ?_
        refine CW.condB rfl (fun hc35 => ?_) (fun hc35 => ?_)
        · refine CW.seq ?_
          refine CW.region ?_
          refine WL.move rfl ?_
          refine WL.assign rfl ?_
          refine WL.assign rfl ?_
          refine WL.nil ?_
          refine CW.ret ?_
          refine Ret.two rfl rfl rfl ?_
          have hqe : vietAll[j] = q7 := by have := hq8; rw [List.getElem?_eq_getElem (by omega)] at this; exact Option.some.inj this
          exact ⟨⟨_, by rw [J, find_hit (i := j) (by omega) hf (by rw [hqe]; simp [joinP, *])]; rfl⟩, e30⟩
        · refine CW.skip ?_
          refine CW.region ?_
          refine WL.move rfl ?_
          refine WL.add rfl rfl (by omega) ?_
          refine WL.assign rfl ?_
          refine WL.nil ?_
          have hqe : vietAll[j] = q7 := by have := hq8; rw [List.getElem?_eq_getElem (by omega)] at this; exact Option.some.inj this
          refine Loop.again _ _ ?_ ?_ ⟨j + 1, rfl, rfl, (Up.trans hU1 (Up.trans u12 u29)), e30, (Ext.trans (Ext.trans hX5 he11) he27), by omega, find_next (by omega) hf (by rw [hqe]; simp [joinP, *])⟩
          · omega
          · exact .cons (t := 0) rfl (.cons (t := 1) rfl (.cons (t := 2) rfl (.cons (t := 8) rfl (.nil _))))
    · refine WL.gskip rfl rfl (decide_eq_false hg33) ?_
      refine WL.gskip rfl rfl (decide_eq_false hg33) ?_
      refine WL.gskip rfl rfl (decide_eq_false hg33) ?_
      refine WL.gskip rfl rfl (decide_eq_false hg33) ?_
      refine WL.gskip rfl rfl (decide_eq_false hg33) ?_
      refine WL.pickF (congrArg (fun b => some (Value.bool b)) (decide_eq_false hg33)) rfl ?_
      refine WL.move rfl ?_
      refine WL.gskip rfl rfl rfl ?_
      refine WL.gskip rfl rfl rfl ?_
      refine WL.gskip rfl rfl rfl ?_
      refine WL.gskip rfl rfl rfl ?_
      refine WL.gskip rfl rfl rfl ?_
      refine WL.pickF rfl rfl ?_
      refine WL.nil ?_
      refine CW.condF rfl ?_
      refine CW.skip ?_
      refine CW.region ?_
      refine WL.move rfl ?_
      refine WL.add rfl rfl (by omega) ?_
      refine WL.assign rfl ?_
      refine WL.nil ?_
      have hqe : vietAll[j] = q7 := by have := hq8; rw [List.getElem?_eq_getElem (by omega)] at this; exact Option.some.inj this
      refine Loop.again _ _ ?_ ?_ ⟨j + 1, rfl, rfl, (Up.trans hU1 (Up.trans u12 u29)), e30, (Ext.trans (Ext.trans hX5 he11) he27), by omega, find_next (by omega) hf (by rw [hqe]; simp [joinP, *])⟩
      · omega
      · exact .cons (t := 0) rfl (.cons (t := 1) rfl (.cons (t := 2) rfl (.cons (t := 8) rfl (.nil _))))
  · refine CW.exit ?_
    refine CW.seq ?_
    refine CW.region ?_
    refine WL.assign rfl ?_
    refine WL.assign rfl ?_
    refine WL.nil ?_
    refine CW.ret ?_
    refine Ret.two rfl rfl rfl ?_
    exact ⟨⟨_, by rw [J, find_end (by omega) hf]; rfl⟩, hE2⟩

theorem Marks_spec (w : World) (M : MS) (hm : MB w M) :
    Fc Try.prog 19 #[] w fun v w' => (∃ a b, v = .tuple #[a, b] ∧ Sl CxR 1 w' M b markVals) ∧ Ext w w' := by
  have e0 := Stp.refl w (fun _ => False)
  refine Fc.enter (n := 4) [] Try.func19 rfl rfl (Nat.le_of_ble_eq_true rfl) (.nil _) ?_
  refine CW.seq ?_
  refine CW.region ?_
  refine WL.assign rfl ?_
  refine WL.assign rfl ?_
  refine WL.nil ?_
  refine CW.seq ?_
  refine CW.region ?_
  refine WL.bslice Try.underlying29 ti3 rfl (by decide) (by decide) (.cons rfl (.cons rfl (.cons rfl (.cons rfl (.cons rfl (.cons rfl (.cons rfl (.cons rfl (.nil))))))))) rfl (by simp [Value.cells]) (fun g1 w2 hg3 hb4 he5 => ?_)
  have hD6 := Bk.ints (xs := [774, 770, 795, 768, 769, 777, 771, 803]) hb4 (by decide) (MB.fresh hm hg3) (by decide)
  have u7 := Ext.up he5 hm
  have e8 := Ext.trans e0 he5
  have hm9 := Up.mb u7
  refine WL.bslice Try.underlying30 ti24 rfl (by decide) (by decide) (.cons rfl (.cons rfl (.cons rfl (.cons rfl (.cons rfl (.cons rfl (.cons rfl (.cons rfl (.nil))))))))) rfl (by simp [Value.cells]) (fun g w1 hg hb he => ?_)
  have hb2 : Bk w1 g 24 (markVals.map fun x => [Value.complex .f64 x.1 x.2]).flatten := hb
  have hn := MB.fresh hm9 hg
  have hDm := Bk.sl (R := CxR) (sz := 1) (fun x => [Value.complex .f64 x.1 x.2]) hb2 (fun x _ => ⟨rfl, rfl⟩) hn (by decide)
  have u10 := Ext.up he hm9
  have e11 := Ext.trans e8 he
  have hm12 := Up.mb u10
  refine WL.assign rfl ?_
  refine WL.assign rfl ?_
  refine WL.nil ?_
  refine CW.ret ?_
  refine Ret.two rfl rfl rfl ?_
  exact ⟨⟨_, _, rfl, _, _, rfl, hDm⟩, e11⟩

theorem awake_spec (w : World) (M : MS) (hm : MB w M) :
    Fc Try.prog 17 #[] w fun v w' => v = .bool true ∧ Ext w w' := by
  have e0 := Stp.refl w (fun _ => False)
  refine Fc.enter (n := 58) [] Try.func17 rfl rfl (Nat.le_of_ble_eq_true rfl) (.nil _) ?_
  refine CW.seq ?_
  refine CW.region ?_
  refine WL.assign rfl ?_
  refine WL.nil ?_
  refine CW.seq ?_
  refine CW.region ?_
  refine WL.call Try.func57 rfl rfl (.cons rfl .nil) (Split_spec _ _ hm 7871) (fun _ w1 hr2 => ?_)
  obtain ⟨hv4, he3⟩ := hr2
  rw [split7871] at hv4; subst hv4
  have u5 := Ext.up he3 hm
  have e6 := Ext.trans e0 he3
  have hm7 := Up.mb u5
  refine WL.move rfl ?_
  refine WL.extract rfl rfl ?_
  refine WL.extract rfl rfl ?_
  refine WL.alloc (cs := [.int .i64 0, .complex .f64 0 0]) ti26 rfl (fun g8 w9 hg10 hb11 he12 => ?_)
  have u13 := Ext.up he12 hm7
  have e14 := Ext.trans e6 he12
  have hm15 := Up.mb u13
  have hb19 := hb11
  refine WL.storeAll (vs := [.int .i64 101, .complex .f64 4611686018427387904 4611686018427387904]) (by rw [ti26]; rfl) rfl rfl (by simp [Value.oneCell']) hb19 rfl (fun w16 hb17 hs18 => ?_)
  have he20 : Ext w1 w16 := Stp.trans he12 hs18 (fun k hk => .inr (by rw [hk]; exact hg10))
  have hn21 := MB.fresh hm7 hg10
  have u22 := Ext.up he20 hm7
  have e23 := Ext.trans e6 he20
  have hm24 := Up.mb u22
  have ha25 := Bk.at_ hb17 hn21
  refine WL.assign rfl ?_
  refine WL.nil ?_
  refine CW.seq ?_
  refine CW.region ?_
  refine WL.buildP (cs := #[.int .i64 69, .complex .f64 4611686018427387904 4611686018427387904]) (.cons rfl (.cons rfl (.nil))) (by kernel_rfl) ?_
  refine WL.call Try.func58 rfl rfl (.cons rfl .nil) (Join_spec _ _ hm24 69 4611686018427387904 4611686018427387904) (fun _ w26 hr27 => ?_)
  obtain ⟨hv29, he28⟩ := hr27
  rw [join69] at hv29; subst hv29
  have u30 := Ext.up he28 hm24
  have e31 := Ext.trans e23 he28
  have hm32 := Up.mb u30
  refine WL.move rfl ?_
  refine WL.extract rfl rfl ?_
  refine WL.extract rfl rfl ?_
  refine WL.assign rfl ?_
  refine WL.assign rfl ?_
  refine WL.nil ?_
  refine CW.seq ?_
  refine CW.region ?_
  refine WL.buildP (cs := #[.int .i64 117, .complex .f64 0 0]) (.cons rfl (.nil)) (by kernel_rfl) ?_
  refine WL.call Try.func20 rfl rfl (.cons rfl (.cons rfl .nil)) (Add_spec _ _ hm32 ⟨117, 0, 0⟩ 4613937818241073152 0) (fun _ w33 hr34 => ?_)
  obtain ⟨hv36, he35⟩ := hr34
  obtain rfl := add1 hv36
  have u37 := Ext.up he35 hm32
  have e38 := Ext.trans e31 he35
  have hm39 := Up.mb u37
  refine WL.move rfl ?_
  refine WL.extract rfl rfl ?_
  refine WL.extract rfl rfl ?_
  refine WL.alloc (cs := [.int .i64 0, .complex .f64 0 0]) ti26 rfl (fun g40 w41 hg42 hb43 he44 => ?_)
  have ne45 : g8 ≠ g40 := by have h1 := Bk.lt (Bk.ext (Bk.ext hb17 he28) he35); have h2 := hg42; omega
  have u46 := Ext.up he44 hm39
  have e47 := Ext.trans e38 he44
  have hm48 := Up.mb u46
  have hb52 := hb43
  refine WL.storeAll (vs := [.int .i64 117, .complex .f64 4613937818241073152 0]) (by rw [ti26]; rfl) rfl rfl (by simp [Value.oneCell']) hb52 rfl (fun w49 hb50 hs51 => ?_)
  have he53 : Ext w33 w49 := Stp.trans he44 hs51 (fun k hk => .inr (by rw [hk]; exact hg42))
  have hn54 := MB.fresh hm39 hg42
  have u55 := Ext.up he53 hm39
  have e56 := Ext.trans e38 he53
  have hm57 := Up.mb u55
  have ha58 := Bk.at_ hb50 hn54
  refine WL.assign rfl ?_
  refine WL.nil ?_
  refine CW.seq ?_
  refine CW.region ?_
  refine WL.loadAgg (cs := [.int .i64 117, .complex .f64 4613937818241073152 0]) ag26 rfl ha58 ?_
  refine WL.call Try.func20 rfl rfl (.cons rfl (.cons rfl .nil)) (Add_spec _ _ hm57 ⟨117, 4613937818241073152, 0⟩ 4607182418800017408 0) (fun _ w59 hr60 => ?_)
  obtain ⟨hv62, he61⟩ := hr60
  obtain rfl := add2 hv62
  have u63 := Ext.up he61 hm57
  have e64 := Ext.trans e56 he61
  have hm65 := Up.mb u63
  refine WL.move rfl ?_
  refine WL.extract rfl rfl ?_
  refine WL.extract rfl rfl ?_
  refine WL.alloc (cs := [.int .i64 0, .complex .f64 0 0]) ti26 rfl (fun g66 w67 hg68 hb69 he70 => ?_)
  have ne71 : g8 ≠ g66 := by have h1 := Bk.lt (Bk.ext (Bk.ext (Bk.ext (Bk.ext hb17 he28) he35) he53) he61); have h2 := hg68; omega
  have ne72 : g40 ≠ g66 := by have h1 := Bk.lt (Bk.ext hb50 he61); have h2 := hg68; omega
  have u73 := Ext.up he70 hm65
  have e74 := Ext.trans e64 he70
  have hm75 := Up.mb u73
  have hb79 := hb69
  refine WL.storeAll (vs := [.int .i64 117, .complex .f64 4613937818241073152 0]) (by rw [ti26]; rfl) rfl rfl (by simp [Value.oneCell']) hb79 rfl (fun w76 hb77 hs78 => ?_)
  have he80 : Ext w59 w76 := Stp.trans he70 hs78 (fun k hk => .inr (by rw [hk]; exact hg68))
  have hn81 := MB.fresh hm65 hg68
  have u82 := Ext.up he80 hm65
  have e83 := Ext.trans e64 he80
  have hm84 := Up.mb u82
  have ha85 := Bk.at_ hb77 hn81
  refine WL.assign rfl ?_
  refine WL.nil ?_
  refine CW.seq ?_
  refine CW.region ?_
  refine WL.move rfl ?_
  refine WL.move rfl ?_
  refine WL.gtake rfl rfl rfl ?_
  refine WL.fieldAddr fo26_0 rfl ?_
  refine WL.gtake rfl rfl rfl ?_
  refine WL.load sc3 rfl ((ha25.up (Up.trans u30 (Up.trans u37 (Up.trans u55 (Up.trans u63 u82))))).cell 0 _ rfl) ?_
  refine WL.gtake rfl rfl rfl ?_
  refine WL.eql rfl rfl ?_
  have hev86 : (true) = true := by kernel_rfl
  refine WL.pickT rfl rfl ?_
  refine WL.move rfl ?_
  have hev87 : ((101 : Int) = 101) := by decide
  refine WL.gtake rfl rfl (decide_eq_true hev87) ?_
  refine WL.fieldAddr fo26_1 rfl ?_
  refine WL.gtake rfl rfl (decide_eq_true hev87) ?_
  refine WL.load sc24 rfl ((ha25.up (Up.trans u30 (Up.trans u37 (Up.trans u55 (Up.trans u63 u82))))).cell 1 _ rfl) ?_
  refine WL.gtake rfl rfl (decide_eq_true hev87) ?_
  refine WL.ceq rfl rfl ?_
  refine WL.pickT (congrArg (fun b => some (Value.bool b)) (decide_eq_true hev87)) rfl ?_
  refine WL.move rfl ?_
  have hev88 : (fe 4611686018427387904 4611686018427387904 && fe 4611686018427387904 4611686018427387904) = true := by kernel_rfl
  refine WL.gtake rfl rfl hev88 ?_
  refine WL.move rfl ?_
  refine WL.pickT (congrArg (fun b => some (Value.bool b)) hev88) rfl ?_
  refine WL.move rfl ?_
  refine WL.gtake rfl rfl rfl ?_
  refine WL.move rfl ?_
  refine WL.gtake rfl rfl rfl ?_
  refine WL.eql rfl rfl ?_
  refine WL.pickT rfl rfl ?_
  refine WL.move rfl ?_
  have hev89 : ((7870 : Int) = 7870) := by decide
  refine WL.gtake rfl rfl (decide_eq_true hev89) ?_
  refine WL.move rfl ?_
  refine WL.pickT (congrArg (fun b => some (Value.bool b)) (decide_eq_true hev89)) rfl ?_
  refine WL.move rfl ?_
  refine WL.gtake rfl rfl rfl ?_
  refine WL.fieldAddr fo26_1 rfl ?_
  refine WL.gtake rfl rfl rfl ?_
  refine WL.load sc24 rfl ((ha58.up (Up.trans u63 u82)).cell 1 _ rfl) ?_
  refine WL.gtake rfl rfl rfl ?_
  refine WL.ceq rfl rfl ?_
  refine WL.pickT rfl rfl ?_
  refine WL.move rfl ?_
  have hev90 : (fe 4613937818241073152 4613937818241073152 && fe 0 0) = true := by kernel_rfl
  refine WL.gtake rfl rfl hev90 ?_
  refine WL.move rfl ?_
  refine WL.gtake rfl rfl hev90 ?_
  refine WL.not_ rfl ?_
  refine WL.pickT (congrArg (fun b => some (Value.bool b)) hev90) rfl ?_
  refine WL.assign rfl ?_
  refine WL.nil ?_
  refine CW.ret ?_
  refine Ret.one rfl rfl ?_
  exact ⟨rfl, e83⟩
end Go.Proofs.Ytgbajkdomcmblaa
