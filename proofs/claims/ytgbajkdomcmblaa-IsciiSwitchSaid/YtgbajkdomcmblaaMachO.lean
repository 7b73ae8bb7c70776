/- What the laws' own functions come to: walks. -/
import Derived.Test.YtgbajkdomcmblaaMachN
namespace Go.Proofs.Ytgbajkdomcmblaa
open Go Go.RowKit Vc
set_option linter.unusedVariables false
set_option linter.unusedSimpArgs false
private theorem mixed : Try.prog.follows .mixedOrders = true := by kernel_rfl
private theorem fo58_0 : fieldOff Try.prog 58 0 = some 0 := by kernel_rfl
private theorem fo58_1 : fieldOff Try.prog 58 1 = some 1 := by kernel_rfl
private theorem fo58_2 : fieldOff Try.prog 58 2 = some 2 := by kernel_rfl
private theorem fo58_3 : fieldOff Try.prog 58 3 = some 3 := by kernel_rfl
private theorem fo100_0 : fieldOff Try.prog 100 0 = some 0 := by kernel_rfl
private theorem fo100_1 : fieldOff Try.prog 100 1 = some 1 := by kernel_rfl
private theorem es29 : elemSize Try.prog 29 = some 1 := by kernel_rfl
private theorem es49 : elemSize Try.prog 49 = some 2 := by kernel_rfl
private theorem es55 : elemSize Try.prog 55 = some 4 := by kernel_rfl
private theorem sc3 : scalar Try.prog 3 = true := by kernel_rfl
private theorem sc29 : scalar Try.prog 29 = true := by kernel_rfl
private theorem sc46 : scalar Try.prog 46 = true := by kernel_rfl
private theorem ag100 : aggSize Try.prog 100 = some 2 := by kernel_rfl
private theorem ti3 : tinfo Try.prog 3 = some (some (.int .i64 0), 1, 8) := by kernel_rfl
private theorem ti58 : tinfo Try.prog 58 = some (some (.agg #[.int .i64 0, .int .i64 0, .slice none 0 0, .int .i64 0]), 4, 48) := by kernel_rfl
private theorem ti100 : tinfo Try.prog 100 = some (some (.agg #[.slice none 0 0, .slice none 0 0]), 2, 48) := by kernel_rfl
theorem lawLongest_spec (w : World) (M : MS) (hm : MB w M) {Ap1 : Option Addr} {cp1 : Nat} {rs : List PRule} (h1 : SlD RuleR 2 w M Ap1 cp1 rs) {Ap2 : Option Addr} {cp2 : Nat} {us : List Int} (h2 : SlD IntR 1 w M Ap2 cp2 us) (hr : RightR rs) :
    Fc Try.prog 75 #[.slice Ap1 rs.length cp1, .slice Ap2 us.length cp2] w fun v w' => v = .tuple #[.int .i64 (longestP rs us).1, .int .i64 (longestP rs us).2, .bool (openP rs us)] ∧ Ext w w' := by
  have hne := hr.ne
  have e0 := Stp.refl w (NoM : MS)
  have hs00 : Ms M M := fun _ h => h
  have hlim := h1.lim
  have hlim2 := h2.lim
  refine Fc.enter (n := 68) [(0, .slice Ap1 rs.length cp1), (1, .slice Ap2 us.length cp2)] Try.func75 rfl rfl (Nat.le_of_ble_eq_true rfl) (.cons rfl (.cons rfl (.nil _))) ?_
  refine CW.seq ?_
  refine CW.region ?_
  refine WL.assign rfl ?_
  refine WL.assign rfl ?_
  refine WL.assign rfl ?_
  refine WL.nil ?_
  refine CW.seq ?_
  refine CW.region ?_
  refine WL.assign rfl ?_
  refine WL.assign rfl ?_
  refine WL.assign rfl ?_
  refine WL.nil ?_
  refine CW.seq ?_
  refine CW.seq ?_
  refine CW.region ?_
  refine WL.move rfl ?_
  refine WL.len Try.underlying49 rfl ?_
  refine WL.move rfl ?_
  refine WL.nil ?_
  refine CW.block ?_
  refine CW.loop (fun m σ wr0 => ∃ i : Nat, ∃ k : Int, ∃ n : Int, ∃ op : Bool, ∃ Mr1 : MS, m = rs.length - i ∧ σ = [(1, .slice Ap2 us.length cp2), (7, .int .i64 k), (8, .int .i64 n), (9, .bool op), (12, .slice Ap1 rs.length cp1), (13, .int .i64 (rs.length : Int)), (14, .int .i64 (i : Int))] ∧ (Up w M wr0 Mr1) ∧ (Stp w wr0 NoM) ∧ (Ms M Mr1) ∧ (Ms M Mr1) ∧ (i ≤ rs.length) ∧ (IsLong (rs.take i) us k n) ∧ (op = openP (rs.take i) us) ∧ (0 ≤ n) ∧ (n ≤ 9223372036854775807)) _ _ (.cons (t := 1) rfl (.cons (t := 7) rfl (.cons (t := 8) rfl (.cons (t := 9) rfl (.cons (t := 12) rfl (.cons (t := 13) rfl (.cons (t := 14) rfl (.nil _)))))))) ⟨0, (-1), 0, false, M, rfl, rfl, Up.refl hm, e0, fun _ h => h, hs00, by omega, .inl ⟨rfl, rfl, by simp⟩, by simp [openP], by omega, by omega⟩ ?_
  rintro m _ wr0 ⟨i, k, n, op, Mr1, rfl, rfl, hU2, hE3, hsp5, hsb6, hi, hL, hop, hn0, hn1⟩
  have hm4 := Up.mb hU2
  refine CW.seq ?_
  refine CW.region ?_
  refine WL.lss rfl rfl ?_
  refine WL.nil ?_
  refine CW.seq ?_
  refine CW.condP rfl (fun hc7 => ?_) (fun hc7 => ?_)
  · have hil : i < rs.length := by omega
    have hne0 := hne rs[i] (List.getElem_mem hil)
    refine CW.skip ?_
    refine CW.seq ?_
    refine CW.block ?_
    refine CW.seq ?_
    refine CW.region ?_
    refine WL.move rfl ?_
    have hlt8 : i < rs.length := by omega
    obtain ⟨ad9, cs10, hA11, hs12, hat13, hR14⟩ := SlD.get (h1.up hU2) (List.getElem?_eq_getElem hlt8)
    obtain ⟨_, _, hx19, ⟨A15, c16, rfl, hD20⟩, ⟨A17, c18, rfl, hD21⟩⟩ := hR14
    rw [hx19] at hat13
    have hl22 := SlD.lim hD20
    have hl23 := SlD.lim hD21
    refine WL.idx es49 rfl rfl hA11 (by omega) (by omega) ?_
    refine WL.loadAgg (cs := [.slice A15 (rs[i].inn.length) c16, .slice A17 (rs[i].out.length) c18]) ag100 rfl hat13 ?_
    refine WL.alloc (cs := [.slice none 0 0, .slice none 0 0]) ti100 rfl (fun g24 w25 hg26 hb27 he28 => ?_)
    obtain ⟨M29, u30, mem31, hsub32, hinv33⟩ := Ext.addVar he28 hm4 hg26 hb27
    have ge34 : ∀ q_, vb g24 q_ → wr0.heap.size ≤ q_ := fun q_ hq_ => by rw [hq_]; exact hg26
    have mem35 := Ms.one mem31
    have e36 := Stp.ext hE3 he28
    have hm37 := Up.mb u30
    have hs038 : Ms M M29 := fun k h => hsub32 k (hsp5 k h)
    have fr39 := Ge.le ge34 (Stp.size hE3)
    refine WL.assign rfl ?_
    refine WL.storeAll (vs := [.slice A15 (rs[i].inn.length) c16, .slice A17 (rs[i].out.length) c18]) (by rw [ti100]; rfl) rfl rfl (by simp [Value.oneCell']) hb27 rfl (fun w40 hb41 hs42 => ?_)
    have u43 := Stp.upM hs42 hm37 mem35
    have e44 := Stp.wr e36 hs42 (Wr.ofFr NoM fr39)
    have hm45 := Up.mb u43
    refine WL.nil ?_
    refine CW.seq ?_
    refine CW.seq ?_
    refine CW.drawn [] (fun w1 w' => Ext w1 w') mixed (fun w46 ed47 hh48 => ?_)
    have u50 := Ext.up ed47 hm45
    have e51 := Stp.ext e44 ed47
    have hm52 := Up.mb u50
    have hcl49 := Stp.refl w46 (fun _ => False)
    refine DW.rF 0 rfl (by kernel_rfl) (fun _ _ _ h => h) (fun w' => Rn.fieldAddr fo100_0 rfl) ?_
    have h53 := Bk.ext hb41 ed47
    refine DW.rT 1 rfl (by kernel_rfl) (fun _ _ _ h => h) (fun w' hC => Rn.load sc29 rfl ((Bk.at_ (M := fun _ => False) (Bk.ext h53 hC) (fun h => h)).cell 0 _ rfl)) ?_
    refine DW.rF 2 rfl (by kernel_rfl) (fun _ _ _ h => h) (fun w' => Rn.len Try.underlying29 rfl) ?_
    refine DW.rF 3 rfl (by kernel_rfl) (fun _ _ _ h => h) (fun w' => Rn.move rfl) ?_
    refine DW.rF 4 rfl (by kernel_rfl) (fun _ _ _ h => h) (fun w' => Rn.len Try.underlying29 rfl) ?_
    refine DW.rF 5 rfl (by kernel_rfl) (fun _ _ _ h => h) (fun w' => Rn.leq rfl rfl) ?_
    refine DW.rF 6 rfl (by kernel_rfl) (fun _ _ _ h => h) (fun w' => Rn.move rfl) ?_
    by_cases hg54 : (rs[i].inn.length : Int) ≤ (us.length : Int)
    · refine DW.gF 7 rfl (by kernel_rfl) (fun _ _ _ h => h) rfl rfl (decide_eq_true hg54) (fun w' => Rn.fieldAddr fo100_0 rfl) ?_
      refine DW.gT 8 rfl (by kernel_rfl) (fun _ _ _ h => h) rfl rfl (decide_eq_true hg54) (fun w' hC => Rn.load sc29 rfl ((Bk.at_ (M := fun _ => False) (Bk.ext h53 hC) (fun h => h)).cell 0 _ rfl)) ?_
      refine DW.gF 9 rfl (by kernel_rfl) (fun _ _ _ h => h) rfl rfl (decide_eq_true hg54) (fun w' => Rn.move rfl) ?_
      refine DW.gF 10 rfl (by kernel_rfl) (fun _ _ _ h => h) rfl rfl (decide_eq_true hg54) (fun w' => Rn.fieldAddr fo100_0 rfl) ?_
      refine DW.gT 11 rfl (by kernel_rfl) (fun _ _ _ h => h) rfl rfl (decide_eq_true hg54) (fun w' hC => Rn.load sc29 rfl ((Bk.at_ (M := fun _ => False) (Bk.ext h53 hC) (fun h => h)).cell 0 _ rfl)) ?_
      refine DW.gF 12 rfl (by kernel_rfl) (fun _ _ _ h => h) rfl rfl (decide_eq_true hg54) (fun w' => Rn.len Try.underlying29 rfl) ?_
      obtain ⟨A55, c56, hRn57, hD58, hl59⟩ := SlD.cutH (h2.up (Up.trans hU2 (Up.trans u30 (Up.trans u43 u50)))) (i := (rs[i].inn.length : Int)) (by omega) (by omega)
      simp only [Int.toNat_natCast] at hD58 hl59 hRn57
      refine DW.gF 13 rfl (by kernel_rfl) (fun _ _ _ h => h) rfl rfl (decide_eq_true hg54) (fun w' => Rn.rn (hRn57 es29 rfl rfl)) ?_
      refine DW.only 14 (by kernel_rfl) rfl (fun _ => hcl49) ?_
      refine WL.gtake rfl rfl (decide_eq_true hg54) ?_
      refine WL.call Try.func39 rfl rfl (.cons rfl (.cons rfl (.nil))) (Units_spec _ _ hm52 (hD20.up (Up.trans u30 (Up.trans u43 u50))) hD58) (fun _ w60 hr61 => ?_)
      obtain ⟨rfl, he62⟩ := hr61
      have u63 := Ext.up he62 hm52
      have e64 := Stp.ext e51 he62
      have hm65 := Up.mb u63
      have hcl66 := Stp.ext hcl49 he62
      refine WL.nil ?_
      refine DW.rF 15 rfl (by kernel_rfl) (fun _ _ _ h => h) (fun w' => Rn.pickT (congrArg (fun b => some (Value.bool b)) (decide_eq_true hg54)) rfl) ?_
      refine DW.rF 16 rfl (by kernel_rfl) (fun _ _ _ h => h) (fun w' => Rn.move rfl) ?_
      by_cases hg67 : rs[i].inn = (us.take (rs[i].inn.length))
      · refine DW.gF 17 rfl (by kernel_rfl) (fun _ _ _ h => h) rfl rfl (decide_eq_true hg67) (fun w' => Rn.fieldAddr fo100_0 rfl) ?_
        refine DW.gT 18 rfl (by kernel_rfl) (fun _ _ _ h => h) rfl rfl (decide_eq_true hg67) (fun w' hC => Rn.load sc29 rfl ((Bk.at_ (M := fun _ => False) (Bk.ext h53 hC) (fun h => h)).cell 0 _ rfl)) ?_
        refine DW.gF 19 rfl (by kernel_rfl) (fun _ _ _ h => h) rfl rfl (decide_eq_true hg67) (fun w' => Rn.len Try.underlying29 rfl) ?_
        refine DW.gF 20 rfl (by kernel_rfl) (fun _ _ _ h => h) rfl rfl (decide_eq_true hg67) (fun w' => Rn.move rfl) ?_
        refine DW.gF 21 rfl (by kernel_rfl) (fun _ _ _ h => h) rfl rfl (decide_eq_true hg67) (fun w' => Rn.gtr rfl rfl) ?_
        refine DW.rF 22 rfl (by kernel_rfl) (fun _ _ _ h => h) (fun w' => Rn.pickT (congrArg (fun b => some (Value.bool b)) (decide_eq_true hg67)) rfl) ?_
        refine DW.done (by kernel_rfl) (fun _ => hcl66) ?_
        refine CW.condP rfl (fun hc68 => ?_) (fun hc68 => ?_)
        · have hle : rs[i].inn.length ≤ us.length := by omega
          have hun : rs[i].inn = us.take rs[i].inn.length := by assumption
          refine CW.drawn [] (fun w1 w' => Ext w1 w') mixed (fun w69 ed70 hh71 => ?_)
          have u73 := Ext.up ed70 hm65
          have e74 := Stp.ext e64 ed70
          have hm75 := Up.mb u73
          have hcl72 := Stp.refl w69 (fun _ => False)
          refine DW.rF 0 rfl (by kernel_rfl) (fun _ _ _ h => h) (fun w' => Rn.move rfl) ?_
          refine DW.rF 1 rfl (by kernel_rfl) (fun _ _ _ h => h) (fun w' => Rn.fieldAddr fo100_0 rfl) ?_
          have h76 := Bk.ext h53 he62
          have h77 := Bk.ext h76 ed70
          refine DW.rT 2 rfl (by kernel_rfl) (fun _ _ _ h => h) (fun w' hC => Rn.load sc29 rfl ((Bk.at_ (M := fun _ => False) (Bk.ext h77 hC) (fun h => h)).cell 0 _ rfl)) ?_
          refine DW.rF 3 rfl (by kernel_rfl) (fun _ _ _ h => h) (fun w' => Rn.len Try.underlying29 rfl) ?_
          refine DW.rF 4 rfl (by kernel_rfl) (fun _ _ _ h => h) (fun w' => Rn.assign rfl) ?_
          refine DW.rF 5 rfl (by kernel_rfl) (fun _ _ _ h => h) (fun w' => Rn.assign rfl) ?_
          refine DW.done (by kernel_rfl) (fun _ => hcl72) ?_
          refine CW.region ?_
          refine WL.move rfl ?_
          refine WL.move rfl ?_
          cases hg78 : op
          · refine WL.gtake rfl rfl rfl ?_
            refine WL.fieldAddr fo100_0 rfl ?_
            refine WL.gtake rfl rfl rfl ?_
            refine WL.load sc29 rfl ((Bk.at_ (M := fun _ => False) h77 (fun h => h)).cell 0 _ rfl) ?_
            refine WL.gtake rfl rfl rfl ?_
            refine WL.len Try.underlying29 rfl ?_
            refine WL.gtake rfl rfl rfl ?_
            refine WL.move rfl ?_
            refine WL.gtake rfl rfl rfl ?_
            refine WL.len Try.underlying29 rfl ?_
            refine WL.gtake rfl rfl rfl ?_
            refine WL.gtr rfl rfl ?_
            refine WL.gtake rfl rfl rfl ?_
            refine WL.move rfl ?_
            by_cases hg79 : (us.length : Int) < (rs[i].inn.length : Int)
            · refine WL.gtake rfl rfl (decide_eq_true hg79) ?_
              refine WL.fieldAddr fo100_0 rfl ?_
              refine WL.gtake rfl rfl (decide_eq_true hg79) ?_
              refine WL.load sc29 rfl ((Bk.at_ (M := fun _ => False) h77 (fun h => h)).cell 0 _ rfl) ?_
              refine WL.gtake rfl rfl (decide_eq_true hg79) ?_
              refine WL.move rfl ?_
              refine WL.gtake rfl rfl (decide_eq_true hg79) ?_
              refine WL.len Try.underlying29 rfl ?_
              refine WL.gtake rfl rfl (decide_eq_true hg79) ?_
              obtain ⟨A80, c81, hRn82, hD83, hl84⟩ := SlD.cutH (hD20.up (Up.trans u30 (Up.trans u43 (Up.trans u50 (Up.trans u63 u73))))) (i := (us.length : Int)) (by omega) (by omega)
              simp only [Int.toNat_natCast] at hD83 hl84 hRn82
              refine WL.rn (hRn82 es29 rfl rfl) ?_
              refine WL.gtake rfl rfl (decide_eq_true hg79) ?_
              refine WL.move rfl ?_
              refine WL.gtake rfl rfl (decide_eq_true hg79) ?_
              refine WL.call Try.func39 rfl rfl (.cons rfl (.cons rfl (.nil))) (Units_spec _ _ hm75 hD83 (h2.up (Up.trans hU2 (Up.trans u30 (Up.trans u43 (Up.trans u50 (Up.trans u63 u73))))))) (fun _ w85 hr86 => ?_)
              obtain ⟨rfl, he87⟩ := hr86
              have u88 := Ext.up he87 hm75
              have e89 := Stp.ext e74 he87
              have hm90 := Up.mb u88
              refine WL.gtake rfl rfl rfl ?_
              refine WL.pickT (congrArg (fun b => some (Value.bool b)) (decide_eq_true hg79)) rfl ?_
              refine WL.pickF rfl rfl ?_
              refine WL.assign rfl ?_
              refine WL.nil ?_
              refine CW.region ?_
              refine WL.add rfl rfl (by omega) ?_
              refine WL.move rfl ?_
              refine WL.nil ?_
              have hnx := isLong_next hil hne0 hL
              have hL2 : IsLong (rs.take (i + 1)) us i rs[i].inn.length := hnx.1 ⟨by rw [← prefix_take hle]; exact hun, by omega⟩
              have hop2 : decide (((rs[i].inn).take us.length) = us) = openP (rs.take (i + 1)) us := by rw [open_next hil, ← hop, hg78]; first | rfl | (exfalso; omega) | (rw [decide_eq_true (show us.length < rs[i].inn.length by omega)]; simp only [Bool.true_and, Bool.false_or]) | (rw [decide_eq_false (show ¬ us.length < rs[i].inn.length by omega)]; simp only [Bool.false_and, Bool.or_false])
              refine Loop.again _ _ ?_ ?_ ⟨i + 1, (i : Int), (rs[i].inn.length : Int), decide (((rs[i].inn).take us.length) = us), M29, rfl, rfl, (Up.trans hU2 (Up.trans u30 (Up.trans u43 (Up.trans u50 (Up.trans u63 (Up.trans u73 u88)))))), e89, hs038, hs038, by omega, hL2, hop2, by omega, by omega⟩
              · omega
              · exact .cons (t := 1) rfl (.cons (t := 7) rfl (.cons (t := 8) rfl (.cons (t := 9) rfl (.cons (t := 12) rfl (.cons (t := 13) rfl (.cons (t := 14) rfl (.nil _)))))))
            · refine WL.gskip rfl rfl (decide_eq_false hg79) ?_
              refine WL.gskip rfl rfl (decide_eq_false hg79) ?_
              refine WL.gskip rfl rfl (decide_eq_false hg79) ?_
              refine WL.gskip rfl rfl (decide_eq_false hg79) ?_
              refine WL.gskip rfl rfl (decide_eq_false hg79) ?_
              refine WL.gskip rfl rfl (decide_eq_false hg79) ?_
              refine WL.gskip rfl rfl (decide_eq_false hg79) ?_
              refine WL.gtake rfl rfl rfl ?_
              refine WL.pickF (congrArg (fun b => some (Value.bool b)) (decide_eq_false hg79)) rfl ?_
              refine WL.pickF rfl rfl ?_
              refine WL.assign rfl ?_
              refine WL.nil ?_
              refine CW.region ?_
              refine WL.add rfl rfl (by omega) ?_
              refine WL.move rfl ?_
              refine WL.nil ?_
              have hnx := isLong_next hil hne0 hL
              have hL2 : IsLong (rs.take (i + 1)) us i rs[i].inn.length := hnx.1 ⟨by rw [← prefix_take hle]; exact hun, by omega⟩
              have hop2 : false = openP (rs.take (i + 1)) us := by rw [open_next hil, ← hop, hg78]; first | rfl | (exfalso; omega) | (rw [decide_eq_true (show us.length < rs[i].inn.length by omega)]; simp only [Bool.true_and, Bool.false_or]) | (rw [decide_eq_false (show ¬ us.length < rs[i].inn.length by omega)]; simp only [Bool.false_and, Bool.or_false])
              refine Loop.again _ _ ?_ ?_ ⟨i + 1, (i : Int), (rs[i].inn.length : Int), false, M29, rfl, rfl, (Up.trans hU2 (Up.trans u30 (Up.trans u43 (Up.trans u50 (Up.trans u63 u73))))), e74, hs038, hs038, by omega, hL2, hop2, by omega, by omega⟩
              · omega
              · exact .cons (t := 1) rfl (.cons (t := 7) rfl (.cons (t := 8) rfl (.cons (t := 9) rfl (.cons (t := 12) rfl (.cons (t := 13) rfl (.cons (t := 14) rfl (.nil _)))))))
          · refine WL.gskip rfl rfl rfl ?_
            refine WL.gskip rfl rfl rfl ?_
            refine WL.gskip rfl rfl rfl ?_
            refine WL.gskip rfl rfl rfl ?_
            refine WL.gskip rfl rfl rfl ?_
            refine WL.gskip rfl rfl rfl ?_
            refine WL.gskip rfl rfl rfl ?_
            refine WL.uskip rfl rfl ?_
            refine WL.uskip rfl rfl ?_
            refine WL.uskip rfl rfl ?_
            refine WL.uskip rfl rfl ?_
            refine WL.uskip rfl rfl ?_
            refine WL.uskip rfl rfl ?_
            refine WL.uskip rfl rfl ?_
            refine WL.gskip rfl rfl rfl ?_
            refine WL.pickT rfl rfl ?_
            refine WL.assign rfl ?_
            refine WL.nil ?_
            refine CW.region ?_
            refine WL.add rfl rfl (by omega) ?_
            refine WL.move rfl ?_
            refine WL.nil ?_
            have hnx := isLong_next hil hne0 hL
            have hL2 : IsLong (rs.take (i + 1)) us i rs[i].inn.length := hnx.1 ⟨by rw [← prefix_take hle]; exact hun, by omega⟩
            have hop2 : true = openP (rs.take (i + 1)) us := by rw [open_next hil, ← hop, hg78]; first | rfl | (exfalso; omega) | (rw [decide_eq_true (show us.length < rs[i].inn.length by omega)]; simp only [Bool.true_and, Bool.false_or]) | (rw [decide_eq_false (show ¬ us.length < rs[i].inn.length by omega)]; simp only [Bool.false_and, Bool.or_false])
            refine Loop.again _ _ ?_ ?_ ⟨i + 1, (i : Int), (rs[i].inn.length : Int), true, M29, rfl, rfl, (Up.trans hU2 (Up.trans u30 (Up.trans u43 (Up.trans u50 (Up.trans u63 u73))))), e74, hs038, hs038, by omega, hL2, hop2, by omega, by omega⟩
            · omega
            · exact .cons (t := 1) rfl (.cons (t := 7) rfl (.cons (t := 8) rfl (.cons (t := 9) rfl (.cons (t := 12) rfl (.cons (t := 13) rfl (.cons (t := 14) rfl (.nil _)))))))
        · have hmiss : ¬ (rs[i].inn.length ≤ us.length ∧ rs[i].inn = us.take rs[i].inn.length ∧ n < rs[i].inn.length) := by rintro ⟨h1_, h2_, h3_⟩; first | omega | exact absurd h2_ (by assumption)
          refine CW.skip ?_
          refine CW.region ?_
          refine WL.move rfl ?_
          refine WL.move rfl ?_
          cases hg91 : op
          · refine WL.gtake rfl rfl rfl ?_
            refine WL.fieldAddr fo100_0 rfl ?_
            refine WL.gtake rfl rfl rfl ?_
            have h92 := Bk.ext h53 he62
            refine WL.load sc29 rfl ((Bk.at_ (M := fun _ => False) h92 (fun h => h)).cell 0 _ rfl) ?_
            refine WL.gtake rfl rfl rfl ?_
            refine WL.len Try.underlying29 rfl ?_
            refine WL.gtake rfl rfl rfl ?_
            refine WL.move rfl ?_
            refine WL.gtake rfl rfl rfl ?_
            refine WL.len Try.underlying29 rfl ?_
            refine WL.gtake rfl rfl rfl ?_
            refine WL.gtr rfl rfl ?_
            refine WL.gtake rfl rfl rfl ?_
            refine WL.move rfl ?_
            by_cases hg93 : (us.length : Int) < (rs[i].inn.length : Int)
            · refine WL.gtake rfl rfl (decide_eq_true hg93) ?_
              refine WL.fieldAddr fo100_0 rfl ?_
              refine WL.gtake rfl rfl (decide_eq_true hg93) ?_
              refine WL.load sc29 rfl ((Bk.at_ (M := fun _ => False) h92 (fun h => h)).cell 0 _ rfl) ?_
              refine WL.gtake rfl rfl (decide_eq_true hg93) ?_
              refine WL.move rfl ?_
              refine WL.gtake rfl rfl (decide_eq_true hg93) ?_
              refine WL.len Try.underlying29 rfl ?_
              refine WL.gtake rfl rfl (decide_eq_true hg93) ?_
              obtain ⟨A94, c95, hRn96, hD97, hl98⟩ := SlD.cutH (hD20.up (Up.trans u30 (Up.trans u43 (Up.trans u50 u63)))) (i := (us.length : Int)) (by omega) (by omega)
              simp only [Int.toNat_natCast] at hD97 hl98 hRn96
              refine WL.rn (hRn96 es29 rfl rfl) ?_
              refine WL.gtake rfl rfl (decide_eq_true hg93) ?_
              refine WL.move rfl ?_
              refine WL.gtake rfl rfl (decide_eq_true hg93) ?_
              refine WL.call Try.func39 rfl rfl (.cons rfl (.cons rfl (.nil))) (Units_spec _ _ hm65 hD97 (h2.up (Up.trans hU2 (Up.trans u30 (Up.trans u43 (Up.trans u50 u63)))))) (fun _ w99 hr100 => ?_)
              obtain ⟨rfl, he101⟩ := hr100
              have u102 := Ext.up he101 hm65
              have e103 := Stp.ext e64 he101
              have hm104 := Up.mb u102
              refine WL.gtake rfl rfl rfl ?_
              refine WL.pickT (congrArg (fun b => some (Value.bool b)) (decide_eq_true hg93)) rfl ?_
              refine WL.pickF rfl rfl ?_
              refine WL.assign rfl ?_
              refine WL.nil ?_
              refine CW.region ?_
              refine WL.add rfl rfl (by omega) ?_
              refine WL.move rfl ?_
              refine WL.nil ?_
              have hnx := isLong_next hil hne0 hL
              have hL2 : IsLong (rs.take (i + 1)) us k n := hnx.2 (fun hc => hmiss ⟨hc.1.length_le, by rw [prefix_take hc.1.length_le]; exact hc.1, hc.2⟩)
              have hop2 : decide (((rs[i].inn).take us.length) = us) = openP (rs.take (i + 1)) us := by rw [open_next hil, ← hop, hg91]; first | rfl | (exfalso; omega) | (rw [decide_eq_true (show us.length < rs[i].inn.length by omega)]; simp only [Bool.true_and, Bool.false_or]) | (rw [decide_eq_false (show ¬ us.length < rs[i].inn.length by omega)]; simp only [Bool.false_and, Bool.or_false])
              refine Loop.again _ _ ?_ ?_ ⟨i + 1, k, n, decide (((rs[i].inn).take us.length) = us), M29, rfl, rfl, (Up.trans hU2 (Up.trans u30 (Up.trans u43 (Up.trans u50 (Up.trans u63 u102))))), e103, hs038, hs038, by omega, hL2, hop2, by omega, by omega⟩
              · omega
              · exact .cons (t := 1) rfl (.cons (t := 7) rfl (.cons (t := 8) rfl (.cons (t := 9) rfl (.cons (t := 12) rfl (.cons (t := 13) rfl (.cons (t := 14) rfl (.nil _)))))))
            · refine WL.gskip rfl rfl (decide_eq_false hg93) ?_
              refine WL.gskip rfl rfl (decide_eq_false hg93) ?_
              refine WL.gskip rfl rfl (decide_eq_false hg93) ?_
              refine WL.gskip rfl rfl (decide_eq_false hg93) ?_
              refine WL.gskip rfl rfl (decide_eq_false hg93) ?_
              refine WL.gskip rfl rfl (decide_eq_false hg93) ?_
              refine WL.gskip rfl rfl (decide_eq_false hg93) ?_
              refine WL.gtake rfl rfl rfl ?_
              refine WL.pickF (congrArg (fun b => some (Value.bool b)) (decide_eq_false hg93)) rfl ?_
              refine WL.pickF rfl rfl ?_
              refine WL.assign rfl ?_
              refine WL.nil ?_
              refine CW.region ?_
              refine WL.add rfl rfl (by omega) ?_
              refine WL.move rfl ?_
              refine WL.nil ?_
              have hnx := isLong_next hil hne0 hL
              have hL2 : IsLong (rs.take (i + 1)) us k n := hnx.2 (fun hc => hmiss ⟨hc.1.length_le, by rw [prefix_take hc.1.length_le]; exact hc.1, hc.2⟩)
              have hop2 : false = openP (rs.take (i + 1)) us := by rw [open_next hil, ← hop, hg91]; first | rfl | (exfalso; omega) | (rw [decide_eq_true (show us.length < rs[i].inn.length by omega)]; simp only [Bool.true_and, Bool.false_or]) | (rw [decide_eq_false (show ¬ us.length < rs[i].inn.length by omega)]; simp only [Bool.false_and, Bool.or_false])
              refine Loop.again _ _ ?_ ?_ ⟨i + 1, k, n, false, M29, rfl, rfl, (Up.trans hU2 (Up.trans u30 (Up.trans u43 (Up.trans u50 u63)))), e64, hs038, hs038, by omega, hL2, hop2, by omega, by omega⟩
              · omega
              · exact .cons (t := 1) rfl (.cons (t := 7) rfl (.cons (t := 8) rfl (.cons (t := 9) rfl (.cons (t := 12) rfl (.cons (t := 13) rfl (.cons (t := 14) rfl (.nil _)))))))
          · refine WL.gskip rfl rfl rfl ?_
            refine WL.gskip rfl rfl rfl ?_
            refine WL.gskip rfl rfl rfl ?_
            refine WL.gskip rfl rfl rfl ?_
            refine WL.gskip rfl rfl rfl ?_
            refine WL.gskip rfl rfl rfl ?_
            refine WL.gskip rfl rfl rfl ?_
            refine WL.uskip rfl rfl ?_
            refine WL.uskip rfl rfl ?_
            refine WL.uskip rfl rfl ?_
            refine WL.uskip rfl rfl ?_
            refine WL.uskip rfl rfl ?_
            refine WL.uskip rfl rfl ?_
            refine WL.uskip rfl rfl ?_
            refine WL.gskip rfl rfl rfl ?_
            refine WL.pickT rfl rfl ?_
            refine WL.assign rfl ?_
            refine WL.nil ?_
            refine CW.region ?_
            refine WL.add rfl rfl (by omega) ?_
            refine WL.move rfl ?_
            refine WL.nil ?_
            have hnx := isLong_next hil hne0 hL
            have hL2 : IsLong (rs.take (i + 1)) us k n := hnx.2 (fun hc => hmiss ⟨hc.1.length_le, by rw [prefix_take hc.1.length_le]; exact hc.1, hc.2⟩)
            have hop2 : true = openP (rs.take (i + 1)) us := by rw [open_next hil, ← hop, hg91]; first | rfl | (exfalso; omega) | (rw [decide_eq_true (show us.length < rs[i].inn.length by omega)]; simp only [Bool.true_and, Bool.false_or]) | (rw [decide_eq_false (show ¬ us.length < rs[i].inn.length by omega)]; simp only [Bool.false_and, Bool.or_false])
            refine Loop.again _ _ ?_ ?_ ⟨i + 1, k, n, true, M29, rfl, rfl, (Up.trans hU2 (Up.trans u30 (Up.trans u43 (Up.trans u50 u63)))), e64, hs038, hs038, by omega, hL2, hop2, by omega, by omega⟩
            · omega
            · exact .cons (t := 1) rfl (.cons (t := 7) rfl (.cons (t := 8) rfl (.cons (t := 9) rfl (.cons (t := 12) rfl (.cons (t := 13) rfl (.cons (t := 14) rfl (.nil _)))))))
      · refine DW.sF 17 rfl (by kernel_rfl) (fun _ _ _ h => h) rfl rfl (decide_eq_false hg67) ?_
        refine DW.sF 18 rfl (by kernel_rfl) (fun _ _ _ h => h) rfl rfl (decide_eq_false hg67) ?_
        refine DW.sF 19 rfl (by kernel_rfl) (fun _ _ _ h => h) rfl rfl (decide_eq_false hg67) ?_
        refine DW.sF 20 rfl (by kernel_rfl) (fun _ _ _ h => h) rfl rfl (decide_eq_false hg67) ?_
        refine DW.sF 21 rfl (by kernel_rfl) (fun _ _ _ h => h) rfl rfl (decide_eq_false hg67) ?_
        refine DW.rF 22 rfl (by kernel_rfl) (fun _ _ _ h => h) (fun w' => Rn.pickF (congrArg (fun b => some (Value.bool b)) (decide_eq_false hg67)) rfl) ?_
        refine DW.done (by kernel_rfl) (fun _ => hcl66) ?_
        refine CW.condF rfl ?_
        have hmiss : ¬ (rs[i].inn.length ≤ us.length ∧ rs[i].inn = us.take rs[i].inn.length ∧ n < rs[i].inn.length) := by rintro ⟨h1_, h2_, h3_⟩; first | omega | exact absurd h2_ (by assumption)
        refine CW.skip ?_
        refine CW.region ?_
        refine WL.move rfl ?_
        refine WL.move rfl ?_
        cases hg105 : op
        · refine WL.gtake rfl rfl rfl ?_
          refine WL.fieldAddr fo100_0 rfl ?_
          refine WL.gtake rfl rfl rfl ?_
          have h106 := Bk.ext h53 he62
          refine WL.load sc29 rfl ((Bk.at_ (M := fun _ => False) h106 (fun h => h)).cell 0 _ rfl) ?_
          refine WL.gtake rfl rfl rfl ?_
          refine WL.len Try.underlying29 rfl ?_
          refine WL.gtake rfl rfl rfl ?_
          refine WL.move rfl ?_
          refine WL.gtake rfl rfl rfl ?_
          refine WL.len Try.underlying29 rfl ?_
          refine WL.gtake rfl rfl rfl ?_
          refine WL.gtr rfl rfl ?_
          refine WL.gtake rfl rfl rfl ?_
          refine WL.move rfl ?_
          by_cases hg107 : (us.length : Int) < (rs[i].inn.length : Int)
          · refine WL.gtake rfl rfl (decide_eq_true hg107) ?_
            refine WL.fieldAddr fo100_0 rfl ?_
            refine WL.gtake rfl rfl (decide_eq_true hg107) ?_
            refine WL.load sc29 rfl ((Bk.at_ (M := fun _ => False) h106 (fun h => h)).cell 0 _ rfl) ?_
            refine WL.gtake rfl rfl (decide_eq_true hg107) ?_
            refine WL.move rfl ?_
            refine WL.gtake rfl rfl (decide_eq_true hg107) ?_
            refine WL.len Try.underlying29 rfl ?_
            refine WL.gtake rfl rfl (decide_eq_true hg107) ?_
            obtain ⟨A108, c109, hRn110, hD111, hl112⟩ := SlD.cutH (hD20.up (Up.trans u30 (Up.trans u43 (Up.trans u50 u63)))) (i := (us.length : Int)) (by omega) (by omega)
            simp only [Int.toNat_natCast] at hD111 hl112 hRn110
            refine WL.rn (hRn110 es29 rfl rfl) ?_
            refine WL.gtake rfl rfl (decide_eq_true hg107) ?_
            refine WL.move rfl ?_
            refine WL.gtake rfl rfl (decide_eq_true hg107) ?_
            refine WL.call Try.func39 rfl rfl (.cons rfl (.cons rfl (.nil))) (Units_spec _ _ hm65 hD111 (h2.up (Up.trans hU2 (Up.trans u30 (Up.trans u43 (Up.trans u50 u63)))))) (fun _ w113 hr114 => ?_)
            obtain ⟨rfl, he115⟩ := hr114
            have u116 := Ext.up he115 hm65
            have e117 := Stp.ext e64 he115
            have hm118 := Up.mb u116
            refine WL.gtake rfl rfl rfl ?_
            refine WL.pickT (congrArg (fun b => some (Value.bool b)) (decide_eq_true hg107)) rfl ?_
            refine WL.pickF rfl rfl ?_
            refine WL.assign rfl ?_
            refine WL.nil ?_
            refine CW.region ?_
            refine WL.add rfl rfl (by omega) ?_
            refine WL.move rfl ?_
            refine WL.nil ?_
            have hnx := isLong_next hil hne0 hL
            have hL2 : IsLong (rs.take (i + 1)) us k n := hnx.2 (fun hc => hmiss ⟨hc.1.length_le, by rw [prefix_take hc.1.length_le]; exact hc.1, hc.2⟩)
            have hop2 : decide (((rs[i].inn).take us.length) = us) = openP (rs.take (i + 1)) us := by rw [open_next hil, ← hop, hg105]; first | rfl | (exfalso; omega) | (rw [decide_eq_true (show us.length < rs[i].inn.length by omega)]; simp only [Bool.true_and, Bool.false_or]) | (rw [decide_eq_false (show ¬ us.length < rs[i].inn.length by omega)]; simp only [Bool.false_and, Bool.or_false])
            refine Loop.again _ _ ?_ ?_ ⟨i + 1, k, n, decide (((rs[i].inn).take us.length) = us), M29, rfl, rfl, (Up.trans hU2 (Up.trans u30 (Up.trans u43 (Up.trans u50 (Up.trans u63 u116))))), e117, hs038, hs038, by omega, hL2, hop2, by omega, by omega⟩
            · omega
            · exact .cons (t := 1) rfl (.cons (t := 7) rfl (.cons (t := 8) rfl (.cons (t := 9) rfl (.cons (t := 12) rfl (.cons (t := 13) rfl (.cons (t := 14) rfl (.nil _)))))))
          · refine WL.gskip rfl rfl (decide_eq_false hg107) ?_
            refine WL.gskip rfl rfl (decide_eq_false hg107) ?_
            refine WL.gskip rfl rfl (decide_eq_false hg107) ?_
            refine WL.gskip rfl rfl (decide_eq_false hg107) ?_
            refine WL.gskip rfl rfl (decide_eq_false hg107) ?_
            refine WL.gskip rfl rfl (decide_eq_false hg107) ?_
            refine WL.gskip rfl rfl (decide_eq_false hg107) ?_
            refine WL.gtake rfl rfl rfl ?_
            refine WL.pickF (congrArg (fun b => some (Value.bool b)) (decide_eq_false hg107)) rfl ?_
            refine WL.pickF rfl rfl ?_
            refine WL.assign rfl ?_
            refine WL.nil ?_
            refine CW.region ?_
            refine WL.add rfl rfl (by omega) ?_
            refine WL.move rfl ?_
            refine WL.nil ?_
            have hnx := isLong_next hil hne0 hL
            have hL2 : IsLong (rs.take (i + 1)) us k n := hnx.2 (fun hc => hmiss ⟨hc.1.length_le, by rw [prefix_take hc.1.length_le]; exact hc.1, hc.2⟩)
            have hop2 : false = openP (rs.take (i + 1)) us := by rw [open_next hil, ← hop, hg105]; first | rfl | (exfalso; omega) | (rw [decide_eq_true (show us.length < rs[i].inn.length by omega)]; simp only [Bool.true_and, Bool.false_or]) | (rw [decide_eq_false (show ¬ us.length < rs[i].inn.length by omega)]; simp only [Bool.false_and, Bool.or_false])
            refine Loop.again _ _ ?_ ?_ ⟨i + 1, k, n, false, M29, rfl, rfl, (Up.trans hU2 (Up.trans u30 (Up.trans u43 (Up.trans u50 u63)))), e64, hs038, hs038, by omega, hL2, hop2, by omega, by omega⟩
            · omega
            · exact .cons (t := 1) rfl (.cons (t := 7) rfl (.cons (t := 8) rfl (.cons (t := 9) rfl (.cons (t := 12) rfl (.cons (t := 13) rfl (.cons (t := 14) rfl (.nil _)))))))
        · refine WL.gskip rfl rfl rfl ?_
          refine WL.gskip rfl rfl rfl ?_
          refine WL.gskip rfl rfl rfl ?_
          refine WL.gskip rfl rfl rfl ?_
          refine WL.gskip rfl rfl rfl ?_
          refine WL.gskip rfl rfl rfl ?_
          refine WL.gskip rfl rfl rfl ?_
          refine WL.uskip rfl rfl ?_
          refine WL.uskip rfl rfl ?_
          refine WL.uskip rfl rfl ?_
          refine WL.uskip rfl rfl ?_
          refine WL.uskip rfl rfl ?_
          refine WL.uskip rfl rfl ?_
          refine WL.uskip rfl rfl ?_
          refine WL.gskip rfl rfl rfl ?_
          refine WL.pickT rfl rfl ?_
          refine WL.assign rfl ?_
          refine WL.nil ?_
          refine CW.region ?_
          refine WL.add rfl rfl (by omega) ?_
          refine WL.move rfl ?_
          refine WL.nil ?_
          have hnx := isLong_next hil hne0 hL
          have hL2 : IsLong (rs.take (i + 1)) us k n := hnx.2 (fun hc => hmiss ⟨hc.1.length_le, by rw [prefix_take hc.1.length_le]; exact hc.1, hc.2⟩)
          have hop2 : true = openP (rs.take (i + 1)) us := by rw [open_next hil, ← hop, hg105]; first | rfl | (exfalso; omega) | (rw [decide_eq_true (show us.length < rs[i].inn.length by omega)]; simp only [Bool.true_and, Bool.false_or]) | (rw [decide_eq_false (show ¬ us.length < rs[i].inn.length by omega)]; simp only [Bool.false_and, Bool.or_false])
          refine Loop.again _ _ ?_ ?_ ⟨i + 1, k, n, true, M29, rfl, rfl, (Up.trans hU2 (Up.trans u30 (Up.trans u43 (Up.trans u50 u63)))), e64, hs038, hs038, by omega, hL2, hop2, by omega, by omega⟩
          · omega
          · exact .cons (t := 1) rfl (.cons (t := 7) rfl (.cons (t := 8) rfl (.cons (t := 9) rfl (.cons (t := 12) rfl (.cons (t := 13) rfl (.cons (t := 14) rfl (.nil _)))))))
    · refine DW.sF 7 rfl (by kernel_rfl) (fun _ _ _ h => h) rfl rfl (decide_eq_false hg54) ?_
      refine DW.sF 8 rfl (by kernel_rfl) (fun _ _ _ h => h) rfl rfl (decide_eq_false hg54) ?_
      refine DW.sF 9 rfl (by kernel_rfl) (fun _ _ _ h => h) rfl rfl (decide_eq_false hg54) ?_
      refine DW.sF 10 rfl (by kernel_rfl) (fun _ _ _ h => h) rfl rfl (decide_eq_false hg54) ?_
      refine DW.sF 11 rfl (by kernel_rfl) (fun _ _ _ h => h) rfl rfl (decide_eq_false hg54) ?_
      refine DW.sF 12 rfl (by kernel_rfl) (fun _ _ _ h => h) rfl rfl (decide_eq_false hg54) ?_
      refine DW.sF 13 rfl (by kernel_rfl) (fun _ _ _ h => h) rfl rfl (decide_eq_false hg54) ?_
      refine DW.sF 14 rfl (by kernel_rfl) (fun _ _ _ h => h) rfl rfl (decide_eq_false hg54) ?_
      refine DW.rF 15 rfl (by kernel_rfl) (fun _ _ _ h => h) (fun w' => Rn.pickF (congrArg (fun b => some (Value.bool b)) (decide_eq_false hg54)) rfl) ?_
      refine DW.rF 16 rfl (by kernel_rfl) (fun _ _ _ h => h) (fun w' => Rn.move rfl) ?_
      refine DW.sF 17 rfl (by kernel_rfl) (fun _ _ _ h => h) rfl rfl rfl ?_
      refine DW.sF 18 rfl (by kernel_rfl) (fun _ _ _ h => h) rfl rfl rfl ?_
      refine DW.sF 19 rfl (by kernel_rfl) (fun _ _ _ h => h) rfl rfl rfl ?_
      refine DW.sF 20 rfl (by kernel_rfl) (fun _ _ _ h => h) rfl rfl rfl ?_
      refine DW.sF 21 rfl (by kernel_rfl) (fun _ _ _ h => h) rfl rfl rfl ?_
      refine DW.rF 22 rfl (by kernel_rfl) (fun _ _ _ h => h) (fun w' => Rn.pickF rfl rfl) ?_
      refine DW.done (by kernel_rfl) (fun _ => hcl49) ?_
      refine CW.condF rfl ?_
      have hmiss : ¬ (rs[i].inn.length ≤ us.length ∧ rs[i].inn = us.take rs[i].inn.length ∧ n < rs[i].inn.length) := by rintro ⟨h1_, h2_, h3_⟩; first | omega | exact absurd h2_ (by assumption)
      refine CW.skip ?_
      refine CW.region ?_
      refine WL.move rfl ?_
      refine WL.move rfl ?_
      cases hg119 : op
      · refine WL.gtake rfl rfl rfl ?_
        refine WL.fieldAddr fo100_0 rfl ?_
        refine WL.gtake rfl rfl rfl ?_
        refine WL.load sc29 rfl ((Bk.at_ (M := fun _ => False) h53 (fun h => h)).cell 0 _ rfl) ?_
        refine WL.gtake rfl rfl rfl ?_
        refine WL.len Try.underlying29 rfl ?_
        refine WL.gtake rfl rfl rfl ?_
        refine WL.move rfl ?_
        refine WL.gtake rfl rfl rfl ?_
        refine WL.len Try.underlying29 rfl ?_
        refine WL.gtake rfl rfl rfl ?_
        refine WL.gtr rfl rfl ?_
        refine WL.gtake rfl rfl rfl ?_
        refine WL.move rfl ?_
        by_cases hg120 : (us.length : Int) < (rs[i].inn.length : Int)
        · refine WL.gtake rfl rfl (decide_eq_true hg120) ?_
          refine WL.fieldAddr fo100_0 rfl ?_
          refine WL.gtake rfl rfl (decide_eq_true hg120) ?_
          refine WL.load sc29 rfl ((Bk.at_ (M := fun _ => False) h53 (fun h => h)).cell 0 _ rfl) ?_
          refine WL.gtake rfl rfl (decide_eq_true hg120) ?_
          refine WL.move rfl ?_
          refine WL.gtake rfl rfl (decide_eq_true hg120) ?_
          refine WL.len Try.underlying29 rfl ?_
          refine WL.gtake rfl rfl (decide_eq_true hg120) ?_
          obtain ⟨A121, c122, hRn123, hD124, hl125⟩ := SlD.cutH (hD20.up (Up.trans u30 (Up.trans u43 u50))) (i := (us.length : Int)) (by omega) (by omega)
          simp only [Int.toNat_natCast] at hD124 hl125 hRn123
          refine WL.rn (hRn123 es29 rfl rfl) ?_
          refine WL.gtake rfl rfl (decide_eq_true hg120) ?_
          refine WL.move rfl ?_
          refine WL.gtake rfl rfl (decide_eq_true hg120) ?_
          refine WL.call Try.func39 rfl rfl (.cons rfl (.cons rfl (.nil))) (Units_spec _ _ hm52 hD124 (h2.up (Up.trans hU2 (Up.trans u30 (Up.trans u43 u50))))) (fun _ w126 hr127 => ?_)
          obtain ⟨rfl, he128⟩ := hr127
          have u129 := Ext.up he128 hm52
          have e130 := Stp.ext e51 he128
          have hm131 := Up.mb u129
          refine WL.gtake rfl rfl rfl ?_
          refine WL.pickT (congrArg (fun b => some (Value.bool b)) (decide_eq_true hg120)) rfl ?_
          refine WL.pickF rfl rfl ?_
          refine WL.assign rfl ?_
          refine WL.nil ?_
          refine CW.region ?_
          refine WL.add rfl rfl (by omega) ?_
          refine WL.move rfl ?_
          refine WL.nil ?_
          have hnx := isLong_next hil hne0 hL
          have hL2 : IsLong (rs.take (i + 1)) us k n := hnx.2 (fun hc => hmiss ⟨hc.1.length_le, by rw [prefix_take hc.1.length_le]; exact hc.1, hc.2⟩)
          have hop2 : decide (((rs[i].inn).take us.length) = us) = openP (rs.take (i + 1)) us := by rw [open_next hil, ← hop, hg119]; first | rfl | (exfalso; omega) | (rw [decide_eq_true (show us.length < rs[i].inn.length by omega)]; simp only [Bool.true_and, Bool.false_or]) | (rw [decide_eq_false (show ¬ us.length < rs[i].inn.length by omega)]; simp only [Bool.false_and, Bool.or_false])
          refine Loop.again _ _ ?_ ?_ ⟨i + 1, k, n, decide (((rs[i].inn).take us.length) = us), M29, rfl, rfl, (Up.trans hU2 (Up.trans u30 (Up.trans u43 (Up.trans u50 u129)))), e130, hs038, hs038, by omega, hL2, hop2, by omega, by omega⟩
          · omega
          · exact .cons (t := 1) rfl (.cons (t := 7) rfl (.cons (t := 8) rfl (.cons (t := 9) rfl (.cons (t := 12) rfl (.cons (t := 13) rfl (.cons (t := 14) rfl (.nil _)))))))
        · refine WL.gskip rfl rfl (decide_eq_false hg120) ?_
          refine WL.gskip rfl rfl (decide_eq_false hg120) ?_
          refine WL.gskip rfl rfl (decide_eq_false hg120) ?_
          refine WL.gskip rfl rfl (decide_eq_false hg120) ?_
          refine WL.gskip rfl rfl (decide_eq_false hg120) ?_
          refine WL.gskip rfl rfl (decide_eq_false hg120) ?_
          refine WL.gskip rfl rfl (decide_eq_false hg120) ?_
          refine WL.gtake rfl rfl rfl ?_
          refine WL.pickF (congrArg (fun b => some (Value.bool b)) (decide_eq_false hg120)) rfl ?_
          refine WL.pickF rfl rfl ?_
          refine WL.assign rfl ?_
          refine WL.nil ?_
          refine CW.region ?_
          refine WL.add rfl rfl (by omega) ?_
          refine WL.move rfl ?_
          refine WL.nil ?_
          have hnx := isLong_next hil hne0 hL
          have hL2 : IsLong (rs.take (i + 1)) us k n := hnx.2 (fun hc => hmiss ⟨hc.1.length_le, by rw [prefix_take hc.1.length_le]; exact hc.1, hc.2⟩)
          have hop2 : false = openP (rs.take (i + 1)) us := by rw [open_next hil, ← hop, hg119]; first | rfl | (exfalso; omega) | (rw [decide_eq_true (show us.length < rs[i].inn.length by omega)]; simp only [Bool.true_and, Bool.false_or]) | (rw [decide_eq_false (show ¬ us.length < rs[i].inn.length by omega)]; simp only [Bool.false_and, Bool.or_false])
          refine Loop.again _ _ ?_ ?_ ⟨i + 1, k, n, false, M29, rfl, rfl, (Up.trans hU2 (Up.trans u30 (Up.trans u43 u50))), e51, hs038, hs038, by omega, hL2, hop2, by omega, by omega⟩
          · omega
          · exact .cons (t := 1) rfl (.cons (t := 7) rfl (.cons (t := 8) rfl (.cons (t := 9) rfl (.cons (t := 12) rfl (.cons (t := 13) rfl (.cons (t := 14) rfl (.nil _)))))))
      · refine WL.gskip rfl rfl rfl ?_
        refine WL.gskip rfl rfl rfl ?_
        refine WL.gskip rfl rfl rfl ?_
        refine WL.gskip rfl rfl rfl ?_
        refine WL.gskip rfl rfl rfl ?_
        refine WL.gskip rfl rfl rfl ?_
        refine WL.gskip rfl rfl rfl ?_
        refine WL.uskip rfl rfl ?_
        refine WL.uskip rfl rfl ?_
        refine WL.uskip rfl rfl ?_
        refine WL.uskip rfl rfl ?_
        refine WL.uskip rfl rfl ?_
        refine WL.uskip rfl rfl ?_
        refine WL.uskip rfl rfl ?_
        refine WL.gskip rfl rfl rfl ?_
        refine WL.pickT rfl rfl ?_
        refine WL.assign rfl ?_
        refine WL.nil ?_
        refine CW.region ?_
        refine WL.add rfl rfl (by omega) ?_
        refine WL.move rfl ?_
        refine WL.nil ?_
        have hnx := isLong_next hil hne0 hL
        have hL2 : IsLong (rs.take (i + 1)) us k n := hnx.2 (fun hc => hmiss ⟨hc.1.length_le, by rw [prefix_take hc.1.length_le]; exact hc.1, hc.2⟩)
        have hop2 : true = openP (rs.take (i + 1)) us := by rw [open_next hil, ← hop, hg119]; first | rfl | (exfalso; omega) | (rw [decide_eq_true (show us.length < rs[i].inn.length by omega)]; simp only [Bool.true_and, Bool.false_or]) | (rw [decide_eq_false (show ¬ us.length < rs[i].inn.length by omega)]; simp only [Bool.false_and, Bool.or_false])
        refine Loop.again _ _ ?_ ?_ ⟨i + 1, k, n, true, M29, rfl, rfl, (Up.trans hU2 (Up.trans u30 (Up.trans u43 u50))), e51, hs038, hs038, by omega, hL2, hop2, by omega, by omega⟩
        · omega
        · exact .cons (t := 1) rfl (.cons (t := 7) rfl (.cons (t := 8) rfl (.cons (t := 9) rfl (.cons (t := 12) rfl (.cons (t := 13) rfl (.cons (t := 14) rfl (.nil _)))))))
  · have hie : i = rs.length := by omega
    refine CW.exit ?_
    refine CW.seq ?_
    refine CW.region ?_
    refine WL.move rfl ?_
    refine WL.move rfl ?_
    refine WL.move rfl ?_
    refine WL.assign rfl ?_
    refine WL.assign rfl ?_
    refine WL.assign rfl ?_
    refine WL.nil ?_
    refine CW.ret ?_
    refine Ret.three rfl rfl rfl rfl ?_
    have hL3 := hL
    rw [hie, List.take_length] at hL3 hop
    have hq := hL3.eq hr (longestP_is hr us)
    rw [hq.1, hq.2, hop]
    exact ⟨rfl, hE3⟩

theorem lawJoins_spec (w : World) (M : MS) (hm : MB w M) {Ap1 : Option Addr} {cp1 : Nat} {rs : List PRule} (h1 : SlD RuleR 2 w M Ap1 cp1 rs) {Ap2 : Option Addr} {cp2 : Nat} {ah : List Int} (h2 : SlD IntR 1 w M Ap2 cp2 ah) {Ap3 : Option Addr} {cp3 : Nat} {us : List Int} (h3 : SlD IntR 1 w M Ap3 cp3 us) (hr : RightR rs) (hl1 : ah.length ≤ 1000) (hl2 : us.length ≤ 1000) :
    Fc Try.prog 38 #[.slice Ap1 rs.length cp1, .slice Ap2 ah.length cp2, .slice Ap3 us.length cp3] w fun v w' => v = .bool (joinsP rs ah us) ∧ Ext w w' := by
  have e0 := Stp.refl w (NoM : MS)
  have hs00 : Ms M M := fun _ h => h
  have hlim := h1.lim
  have hlim2 := h2.lim
  have hlim3 := h3.lim
  refine Fc.enter (n := 50) [(0, .slice Ap1 rs.length cp1), (1, .slice Ap2 ah.length cp2), (2, .slice Ap3 us.length cp3)] Try.func38 rfl rfl (Nat.le_of_ble_eq_true rfl) (.cons rfl (.cons rfl (.cons rfl (.nil _)))) ?_
  refine CW.seq ?_
  refine CW.region ?_
  refine WL.assign rfl ?_
  refine WL.nil ?_
  refine CW.seq ?_
  refine CW.region ?_
  refine WL.move rfl ?_
  refine WL.appendR Try.underlying29 ti3 rfl (by decide) rfl rfl (Own.nil (R := IntR) (sz := 1) (e := 3) (w := w) (M := M) (B := 0)) (Sl.atl (SlD.sl h2)) hm (by decide) (by first | omega | (simp; omega)) (fun A1 c2 w3 M4 hO5 hs6 u7 hsub8 hnew9 => ?_)
  have hO12 : Own IntR 1 3 w3 M4 0 (.slice A1 (ah).length c2) (ah) := hO5
  have he10 : Ext w w3 := Stp.to hs6 (fun k h => by have h : (none : Option Nat) = some k := h; cases h)
  have ge11 : ∀ q_, (ob (.slice A1 (ah).length c2)) q_ → w.heap.size ≤ q_ := fun q_ hq_ => (hnew9 q_ hq_).elim (fun h => by have h : (none : Option Nat) = some q_ := h; cases h) id
  have e13 := Stp.ext e0 he10
  have hm14 := Up.mb u7
  have hs015 : Ms M M4 := fun k h => hsub8 k (hs00 k h)
  have fr16 := Ge.le ge11 (Stp.size e0)
  refine WL.move rfl ?_
  refine WL.appendR Try.underlying29 ti3 rfl (by decide) rfl rfl hO12 (Sl.atl (SlD.sl (h3.up u7))) hm14 (by decide) (by first | omega | (simp; omega)) (fun A17 c18 w19 M20 hO21 hs22 u23 hsub24 hnew25 => ?_)
  have e26 := Stp.wr e13 hs22 (Wr.ofFr NoM fr16)
  have hm27 := Up.mb u23
  have hs028 : Ms M M20 := fun k h => hsub24 k (hs015 k h)
  have fr30 := Ge.grow fr16 hnew25 (Stp.size e13)
  have ge31 := Ge.grow ge11 hnew25 (Stp.size (Up.stp u7))
  have hD32 := Own.freeze hO21 hm27
  have u33 := Up.freeze hm27 (ob (.slice A17 (ah ++ us).length c18))
  have hs034 : Ms M (less M20 (ob (.slice A17 (ah ++ us).length c18))) := Ms.less hs028 (Dj.symm (Dj.fresh ge31 (fun _ h => h) hm))
  have hm35 := Up.mb u33
  refine WL.assign rfl ?_
  refine WL.nil ?_
  refine CW.seq ?_
  refine CW.seq ?_
  refine CW.region ?_
  refine WL.move rfl ?_
  refine WL.len Try.underlying49 rfl ?_
  refine WL.move rfl ?_
  refine WL.nil ?_
  refine CW.block ?_
  refine CW.loop (fun m σ wr0 => ∃ i : Nat, ∃ Mr36 : MS, m = rs.length - i ∧ σ = [(1, .slice Ap2 ah.length cp2), (7, .slice A17 ((ah ++ us).length) c18), (14, .slice Ap1 rs.length cp1), (15, .int .i64 (rs.length : Int)), (16, .int .i64 (i : Int))] ∧ (Up w19 (less M20 (ob (.slice A17 (ah ++ us).length c18))) wr0 Mr36) ∧ (Stp w wr0 NoM) ∧ (Ms (less M20 (ob (.slice A17 (ah ++ us).length c18))) Mr36) ∧ (Ms M Mr36) ∧ (i ≤ rs.length) ∧ ((rs.take i).any (joinB ah (ah ++ us)) = false)) _ _ (.cons (t := 1) rfl (.cons (t := 7) rfl (.cons (t := 14) rfl (.cons (t := 15) rfl (.cons (t := 16) rfl (.nil _)))))) ⟨0, (less M20 (ob (.slice A17 (ah ++ us).length c18))), rfl, rfl, Up.refl hm35, e26, fun _ h => h, hs034, by omega, by simp⟩ ?_
  rintro m _ wr0 ⟨i, Mr36, rfl, rfl, hU37, hE38, hsp40, hsb41, hi, hf⟩
  have hm39 := Up.mb hU37
  refine CW.seq ?_
  refine CW.region ?_
  refine WL.lss rfl rfl ?_
  refine WL.nil ?_
  refine CW.seq ?_
  refine CW.condP rfl (fun hc42 => ?_) (fun hc42 => ?_)
  · have hil : i < rs.length := by omega
    refine CW.skip ?_
    refine CW.seq ?_
    refine CW.block ?_
    refine CW.seq ?_
    refine CW.region ?_
    have hlt43 : i < rs.length := by omega
    obtain ⟨ad44, cs45, hA46, hs47, hat48, hR49⟩ := SlD.get (h1.up (Up.trans u7 (Up.trans u23 (Up.trans u33 hU37)))) (List.getElem?_eq_getElem hlt43)
    obtain ⟨_, _, hx54, ⟨A50, c51, rfl, hD55⟩, ⟨A52, c53, rfl, hD56⟩⟩ := hR49
    rw [hx54] at hat48
    have hl57 := SlD.lim hD55
    have hl58 := SlD.lim hD56
    refine WL.idx es49 rfl rfl hA46 (by omega) (by omega) ?_
    refine WL.loadAgg (cs := [.slice A50 (rs[i].inn.length) c51, .slice A52 (rs[i].out.length) c53]) ag100 rfl hat48 ?_
    refine WL.alloc (cs := [.slice none 0 0, .slice none 0 0]) ti100 rfl (fun g59 w60 hg61 hb62 he63 => ?_)
    obtain ⟨M64, u65, mem66, hsub67, hinv68⟩ := Ext.addVar he63 hm39 hg61 hb62
    have ge69 : ∀ q_, vb g59 q_ → wr0.heap.size ≤ q_ := fun q_ hq_ => by rw [hq_]; exact hg61
    have mem70 := Ms.one mem66
    have e71 := Stp.ext hE38 he63
    have hm72 := Up.mb u65
    have hs073 : Ms M M64 := fun k h => hsub67 k (hsb41 k h)
    have hs074 : Ms (less M20 (ob (.slice A17 (ah ++ us).length c18))) M64 := fun k h => hsub67 k (hsp40 k h)
    have fr75 := Ge.le ge69 (Stp.size hE38)
    refine WL.storeAll (vs := [.slice A50 (rs[i].inn.length) c51, .slice A52 (rs[i].out.length) c53]) (by rw [ti100]; rfl) rfl rfl (by simp [Value.oneCell']) hb62 rfl (fun w76 hb77 hs78 => ?_)
    have u79 := Stp.upM hs78 hm72 mem70
    have e80 := Stp.wr e71 hs78 (Wr.ofFr NoM fr75)
    have hm81 := Up.mb u79
    refine WL.nil ?_
    refine CW.seq ?_
    refine CW.drawn [] (fun w1 w' => Ext w1 w') mixed (fun w82 ed83 hh84 => ?_)
    have u86 := Ext.up ed83 hm81
    have e87 := Stp.ext e80 ed83
    have hm88 := Up.mb u86
    have hcl85 := Stp.refl w82 (fun _ => False)
    refine DW.rF 0 rfl (by kernel_rfl) (fun _ _ _ h => h) (fun w' => Rn.move rfl) ?_
    refine DW.rF 1 rfl (by kernel_rfl) (fun _ _ _ h => h) (fun w' => Rn.len Try.underlying29 rfl) ?_
    refine DW.rF 2 rfl (by kernel_rfl) (fun _ _ _ h => h) (fun w' => Rn.gtr rfl rfl) ?_
    refine DW.rF 3 rfl (by kernel_rfl) (fun _ _ _ h => h) (fun w' => Rn.move rfl) ?_
    by_cases hg89 : 0 < (ah.length : Int)
    · refine DW.gF 4 rfl (by kernel_rfl) (fun _ _ _ h => h) rfl rfl (decide_eq_true hg89) (fun w' => Rn.fieldAddr fo100_0 rfl) ?_
      have h90 := Bk.ext hb77 ed83
      refine DW.gT 5 rfl (by kernel_rfl) (fun _ _ _ h => h) rfl rfl (decide_eq_true hg89) (fun w' hC => Rn.load sc29 rfl ((Bk.at_ (M := fun _ => False) (Bk.ext h90 hC) (fun h => h)).cell 0 _ rfl)) ?_
      refine DW.gF 6 rfl (by kernel_rfl) (fun _ _ _ h => h) rfl rfl (decide_eq_true hg89) (fun w' => Rn.len Try.underlying29 rfl) ?_
      refine DW.gF 7 rfl (by kernel_rfl) (fun _ _ _ h => h) rfl rfl (decide_eq_true hg89) (fun w' => Rn.move rfl) ?_
      refine DW.gF 8 rfl (by kernel_rfl) (fun _ _ _ h => h) rfl rfl (decide_eq_true hg89) (fun w' => Rn.len Try.underlying29 rfl) ?_
      refine DW.gF 9 rfl (by kernel_rfl) (fun _ _ _ h => h) rfl rfl (decide_eq_true hg89) (fun w' => Rn.gtr rfl rfl) ?_
      refine DW.rF 10 rfl (by kernel_rfl) (fun _ _ _ h => h) (fun w' => Rn.pickT (congrArg (fun b => some (Value.bool b)) (decide_eq_true hg89)) rfl) ?_
      refine DW.rF 11 rfl (by kernel_rfl) (fun _ _ _ h => h) (fun w' => Rn.move rfl) ?_
      by_cases hg91 : (ah.length : Int) < (rs[i].inn.length : Int)
      · refine DW.gF 12 rfl (by kernel_rfl) (fun _ _ _ h => h) rfl rfl (decide_eq_true hg91) (fun w' => Rn.fieldAddr fo100_0 rfl) ?_
        refine DW.gT 13 rfl (by kernel_rfl) (fun _ _ _ h => h) rfl rfl (decide_eq_true hg91) (fun w' hC => Rn.load sc29 rfl ((Bk.at_ (M := fun _ => False) (Bk.ext h90 hC) (fun h => h)).cell 0 _ rfl)) ?_
        refine DW.gF 14 rfl (by kernel_rfl) (fun _ _ _ h => h) rfl rfl (decide_eq_true hg91) (fun w' => Rn.len Try.underlying29 rfl) ?_
        refine DW.gF 15 rfl (by kernel_rfl) (fun _ _ _ h => h) rfl rfl (decide_eq_true hg91) (fun w' => Rn.move rfl) ?_
        refine DW.gF 16 rfl (by kernel_rfl) (fun _ _ _ h => h) rfl rfl (decide_eq_true hg91) (fun w' => Rn.len Try.underlying29 rfl) ?_
        refine DW.gF 17 rfl (by kernel_rfl) (fun _ _ _ h => h) rfl rfl (decide_eq_true hg91) (fun w' => Rn.leq rfl rfl) ?_
        refine DW.rF 18 rfl (by kernel_rfl) (fun _ _ _ h => h) (fun w' => Rn.pickT (congrArg (fun b => some (Value.bool b)) (decide_eq_true hg91)) rfl) ?_
        refine DW.rF 19 rfl (by kernel_rfl) (fun _ _ _ h => h) (fun w' => Rn.move rfl) ?_
        by_cases hg92 : (rs[i].inn.length : Int) ≤ ((ah ++ us).length : Int)
        · refine DW.gF 20 rfl (by kernel_rfl) (fun _ _ _ h => h) rfl rfl (decide_eq_true hg92) (fun w' => Rn.fieldAddr fo100_0 rfl) ?_
          refine DW.gT 21 rfl (by kernel_rfl) (fun _ _ _ h => h) rfl rfl (decide_eq_true hg92) (fun w' hC => Rn.load sc29 rfl ((Bk.at_ (M := fun _ => False) (Bk.ext h90 hC) (fun h => h)).cell 0 _ rfl)) ?_
          refine DW.gF 22 rfl (by kernel_rfl) (fun _ _ _ h => h) rfl rfl (decide_eq_true hg92) (fun w' => Rn.move rfl) ?_
          refine DW.gF 23 rfl (by kernel_rfl) (fun _ _ _ h => h) rfl rfl (decide_eq_true hg92) (fun w' => Rn.fieldAddr fo100_0 rfl) ?_
          refine DW.gT 24 rfl (by kernel_rfl) (fun _ _ _ h => h) rfl rfl (decide_eq_true hg92) (fun w' hC => Rn.load sc29 rfl ((Bk.at_ (M := fun _ => False) (Bk.ext h90 hC) (fun h => h)).cell 0 _ rfl)) ?_
          refine DW.gF 25 rfl (by kernel_rfl) (fun _ _ _ h => h) rfl rfl (decide_eq_true hg92) (fun w' => Rn.len Try.underlying29 rfl) ?_
          obtain ⟨A93, c94, hRn95, hD96, hl97⟩ := SlD.cutH (hD32.up (Up.trans hU37 (Up.trans u65 (Up.trans u79 u86)))) (i := (rs[i].inn.length : Int)) (by omega) (by omega)
          simp only [Int.toNat_natCast] at hD96 hl97 hRn95
          refine DW.gF 26 rfl (by kernel_rfl) (fun _ _ _ h => h) rfl rfl (decide_eq_true hg92) (fun w' => Rn.rn (hRn95 es29 rfl rfl)) ?_
          refine DW.only 27 (by kernel_rfl) rfl (fun _ => hcl85) ?_
          refine WL.gtake rfl rfl (decide_eq_true hg92) ?_
          refine WL.call Try.func39 rfl rfl (.cons rfl (.cons rfl (.nil))) (Units_spec _ _ hm88 (hD55.up (Up.trans u65 (Up.trans u79 u86))) hD96) (fun _ w98 hr99 => ?_)
          obtain ⟨rfl, he100⟩ := hr99
          have u101 := Ext.up he100 hm88
          have e102 := Stp.ext e87 he100
          have hm103 := Up.mb u101
          have hcl104 := Stp.ext hcl85 he100
          refine WL.nil ?_
          refine DW.rF 28 rfl (by kernel_rfl) (fun _ _ _ h => h) (fun w' => Rn.pickT (congrArg (fun b => some (Value.bool b)) (decide_eq_true hg92)) rfl) ?_
          refine DW.done (by kernel_rfl) (fun _ => hcl104) ?_
          refine CW.condP rfl (fun hc105 => ?_) (fun hc105 => ?_)
          · have hjb : joinB ah (ah ++ us) rs[i] = true := by
              unfold joinB
              simp only [Bool.and_eq_true, decide_eq_true_eq]; exact ⟨by omega, by omega, by omega, by assumption⟩
            refine CW.seq ?_
            refine CW.region ?_
            refine WL.assign rfl ?_
            refine WL.nil ?_
            refine CW.ret ?_
            refine Ret.one rfl rfl ?_
            refine ⟨?_, e102⟩
            rw [← joins_any hr, List.any_eq_true.2 ⟨rs[i], List.getElem_mem hil, hjb⟩]
          · have hjb : joinB ah (ah ++ us) rs[i] = false := by
              unfold joinB
              rw [Bool.eq_false_iff]; simp only [ne_eq, Bool.and_eq_true, decide_eq_true_eq]; rintro ⟨h1_, h2_, h3_, h4_⟩; first | omega | exact absurd h4_ (by assumption)
            refine CW.skip ?_
            refine CW.region ?_
            refine WL.add rfl rfl (by omega) ?_
            refine WL.move rfl ?_
            refine WL.nil ?_
            refine Loop.again _ _ ?_ ?_ ⟨i + 1, M64, rfl, rfl, (Up.trans hU37 (Up.trans u65 (Up.trans u79 (Up.trans u86 u101)))), e102, hs074, hs073, by omega, by rw [any_next hil, hf]; simpa using hjb⟩
            · omega
            · exact .cons (t := 1) rfl (.cons (t := 7) rfl (.cons (t := 14) rfl (.cons (t := 15) rfl (.cons (t := 16) rfl (.nil _)))))
        · refine DW.sF 20 rfl (by kernel_rfl) (fun _ _ _ h => h) rfl rfl (decide_eq_false hg92) ?_
          refine DW.sF 21 rfl (by kernel_rfl) (fun _ _ _ h => h) rfl rfl (decide_eq_false hg92) ?_
          refine DW.sF 22 rfl (by kernel_rfl) (fun _ _ _ h => h) rfl rfl (decide_eq_false hg92) ?_
          refine DW.sF 23 rfl (by kernel_rfl) (fun _ _ _ h => h) rfl rfl (decide_eq_false hg92) ?_
          refine DW.sF 24 rfl (by kernel_rfl) (fun _ _ _ h => h) rfl rfl (decide_eq_false hg92) ?_
          refine DW.sF 25 rfl (by kernel_rfl) (fun _ _ _ h => h) rfl rfl (decide_eq_false hg92) ?_
          refine DW.sF 26 rfl (by kernel_rfl) (fun _ _ _ h => h) rfl rfl (decide_eq_false hg92) ?_
          refine DW.sF 27 rfl (by kernel_rfl) (fun _ _ _ h => h) rfl rfl (decide_eq_false hg92) ?_
          refine DW.rF 28 rfl (by kernel_rfl) (fun _ _ _ h => h) (fun w' => Rn.pickF (congrArg (fun b => some (Value.bool b)) (decide_eq_false hg92)) rfl) ?_
          refine DW.done (by kernel_rfl) (fun _ => hcl85) ?_
          refine CW.condF rfl ?_
          have hjb : joinB ah (ah ++ us) rs[i] = false := by
            unfold joinB
            rw [Bool.eq_false_iff]; simp only [ne_eq, Bool.and_eq_true, decide_eq_true_eq]; rintro ⟨h1_, h2_, h3_, h4_⟩; first | omega | exact absurd h4_ (by assumption)
          refine CW.skip ?_
          refine CW.region ?_
          refine WL.add rfl rfl (by omega) ?_
          refine WL.move rfl ?_
          refine WL.nil ?_
          refine Loop.again _ _ ?_ ?_ ⟨i + 1, M64, rfl, rfl, (Up.trans hU37 (Up.trans u65 (Up.trans u79 u86))), e87, hs074, hs073, by omega, by rw [any_next hil, hf]; simpa using hjb⟩
          · omega
          · exact .cons (t := 1) rfl (.cons (t := 7) rfl (.cons (t := 14) rfl (.cons (t := 15) rfl (.cons (t := 16) rfl (.nil _)))))
      · refine DW.sF 12 rfl (by kernel_rfl) (fun _ _ _ h => h) rfl rfl (decide_eq_false hg91) ?_
        refine DW.sF 13 rfl (by kernel_rfl) (fun _ _ _ h => h) rfl rfl (decide_eq_false hg91) ?_
        refine DW.sF 14 rfl (by kernel_rfl) (fun _ _ _ h => h) rfl rfl (decide_eq_false hg91) ?_
        refine DW.sF 15 rfl (by kernel_rfl) (fun _ _ _ h => h) rfl rfl (decide_eq_false hg91) ?_
        refine DW.sF 16 rfl (by kernel_rfl) (fun _ _ _ h => h) rfl rfl (decide_eq_false hg91) ?_
        refine DW.sF 17 rfl (by kernel_rfl) (fun _ _ _ h => h) rfl rfl (decide_eq_false hg91) ?_
        refine DW.rF 18 rfl (by kernel_rfl) (fun _ _ _ h => h) (fun w' => Rn.pickF (congrArg (fun b => some (Value.bool b)) (decide_eq_false hg91)) rfl) ?_
        refine DW.rF 19 rfl (by kernel_rfl) (fun _ _ _ h => h) (fun w' => Rn.move rfl) ?_
        refine DW.sF 20 rfl (by kernel_rfl) (fun _ _ _ h => h) rfl rfl rfl ?_
        refine DW.sF 21 rfl (by kernel_rfl) (fun _ _ _ h => h) rfl rfl rfl ?_
        refine DW.sF 22 rfl (by kernel_rfl) (fun _ _ _ h => h) rfl rfl rfl ?_
        refine DW.sF 23 rfl (by kernel_rfl) (fun _ _ _ h => h) rfl rfl rfl ?_
        refine DW.sF 24 rfl (by kernel_rfl) (fun _ _ _ h => h) rfl rfl rfl ?_
        refine DW.sF 25 rfl (by kernel_rfl) (fun _ _ _ h => h) rfl rfl rfl ?_
        refine DW.sF 26 rfl (by kernel_rfl) (fun _ _ _ h => h) rfl rfl rfl ?_
        refine DW.sF 27 rfl (by kernel_rfl) (fun _ _ _ h => h) rfl rfl rfl ?_
        refine DW.rF 28 rfl (by kernel_rfl) (fun _ _ _ h => h) (fun w' => Rn.pickF rfl rfl) ?_
        refine DW.done (by kernel_rfl) (fun _ => hcl85) ?_
        refine CW.condF rfl ?_
        have hjb : joinB ah (ah ++ us) rs[i] = false := by
          unfold joinB
          rw [Bool.eq_false_iff]; simp only [ne_eq, Bool.and_eq_true, decide_eq_true_eq]; rintro ⟨h1_, h2_, h3_, h4_⟩; first | omega | exact absurd h4_ (by assumption)
        refine CW.skip ?_
        refine CW.region ?_
        refine WL.add rfl rfl (by omega) ?_
        refine WL.move rfl ?_
        refine WL.nil ?_
        refine Loop.again _ _ ?_ ?_ ⟨i + 1, M64, rfl, rfl, (Up.trans hU37 (Up.trans u65 (Up.trans u79 u86))), e87, hs074, hs073, by omega, by rw [any_next hil, hf]; simpa using hjb⟩
        · omega
        · exact .cons (t := 1) rfl (.cons (t := 7) rfl (.cons (t := 14) rfl (.cons (t := 15) rfl (.cons (t := 16) rfl (.nil _)))))
    · refine DW.sF 4 rfl (by kernel_rfl) (fun _ _ _ h => h) rfl rfl (decide_eq_false hg89) ?_
      refine DW.sF 5 rfl (by kernel_rfl) (fun _ _ _ h => h) rfl rfl (decide_eq_false hg89) ?_
      refine DW.sF 6 rfl (by kernel_rfl) (fun _ _ _ h => h) rfl rfl (decide_eq_false hg89) ?_
      refine DW.sF 7 rfl (by kernel_rfl) (fun _ _ _ h => h) rfl rfl (decide_eq_false hg89) ?_
      refine DW.sF 8 rfl (by kernel_rfl) (fun _ _ _ h => h) rfl rfl (decide_eq_false hg89) ?_
      refine DW.sF 9 rfl (by kernel_rfl) (fun _ _ _ h => h) rfl rfl (decide_eq_false hg89) ?_
      refine DW.rF 10 rfl (by kernel_rfl) (fun _ _ _ h => h) (fun w' => Rn.pickF (congrArg (fun b => some (Value.bool b)) (decide_eq_false hg89)) rfl) ?_
      refine DW.rF 11 rfl (by kernel_rfl) (fun _ _ _ h => h) (fun w' => Rn.move rfl) ?_
      refine DW.sF 12 rfl (by kernel_rfl) (fun _ _ _ h => h) rfl rfl rfl ?_
      refine DW.sF 13 rfl (by kernel_rfl) (fun _ _ _ h => h) rfl rfl rfl ?_
      refine DW.sF 14 rfl (by kernel_rfl) (fun _ _ _ h => h) rfl rfl rfl ?_
      refine DW.sF 15 rfl (by kernel_rfl) (fun _ _ _ h => h) rfl rfl rfl ?_
      refine DW.sF 16 rfl (by kernel_rfl) (fun _ _ _ h => h) rfl rfl rfl ?_
      refine DW.sF 17 rfl (by kernel_rfl) (fun _ _ _ h => h) rfl rfl rfl ?_
      refine DW.rF 18 rfl (by kernel_rfl) (fun _ _ _ h => h) (fun w' => Rn.pickF rfl rfl) ?_
      refine DW.rF 19 rfl (by kernel_rfl) (fun _ _ _ h => h) (fun w' => Rn.move rfl) ?_
      refine DW.sF 20 rfl (by kernel_rfl) (fun _ _ _ h => h) rfl rfl rfl ?_
      refine DW.sF 21 rfl (by kernel_rfl) (fun _ _ _ h => h) rfl rfl rfl ?_
      refine DW.sF 22 rfl (by kernel_rfl) (fun _ _ _ h => h) rfl rfl rfl ?_
      refine DW.sF 23 rfl (by kernel_rfl) (fun _ _ _ h => h) rfl rfl rfl ?_
      refine DW.sF 24 rfl (by kernel_rfl) (fun _ _ _ h => h) rfl rfl rfl ?_
      refine DW.sF 25 rfl (by kernel_rfl) (fun _ _ _ h => h) rfl rfl rfl ?_
      refine DW.sF 26 rfl (by kernel_rfl) (fun _ _ _ h => h) rfl rfl rfl ?_
      refine DW.sF 27 rfl (by kernel_rfl) (fun _ _ _ h => h) rfl rfl rfl ?_
      refine DW.rF 28 rfl (by kernel_rfl) (fun _ _ _ h => h) (fun w' => Rn.pickF rfl rfl) ?_
      refine DW.done (by kernel_rfl) (fun _ => hcl85) ?_
      refine CW.condF rfl ?_
      have hjb : joinB ah (ah ++ us) rs[i] = false := by
        unfold joinB
        rw [Bool.eq_false_iff]; simp only [ne_eq, Bool.and_eq_true, decide_eq_true_eq]; rintro ⟨h1_, h2_, h3_, h4_⟩; first | omega | exact absurd h4_ (by assumption)
      refine CW.skip ?_
      refine CW.region ?_
      refine WL.add rfl rfl (by omega) ?_
      refine WL.move rfl ?_
      refine WL.nil ?_
      refine Loop.again _ _ ?_ ?_ ⟨i + 1, M64, rfl, rfl, (Up.trans hU37 (Up.trans u65 (Up.trans u79 u86))), e87, hs074, hs073, by omega, by rw [any_next hil, hf]; simpa using hjb⟩
      · omega
      · exact .cons (t := 1) rfl (.cons (t := 7) rfl (.cons (t := 14) rfl (.cons (t := 15) rfl (.cons (t := 16) rfl (.nil _)))))
  · have hie : i = rs.length := by omega
    refine CW.exit ?_
    refine CW.seq ?_
    refine CW.region ?_
    refine WL.assign rfl ?_
    refine WL.nil ?_
    refine CW.ret ?_
    refine Ret.one rfl rfl ?_
    refine ⟨?_, hE38⟩
    rw [hie, List.take_length] at hf
    rw [← joins_any hr, hf]

theorem lawAll_spec (w : World) (M : MS) (hm : MB w M) {Ap1 : Option Addr} {cp1 : Nat} {rs : List PRule} (h1 : SlD RuleR 2 w M Ap1 cp1 rs) {Ap2 : Option Addr} {cp2 : Nat} {us : List Int} (h2 : SlD IntR 1 w M Ap2 cp2 us) (hg : GoodR rs) (hul : us.length ≤ 100000) :
    Fc Try.prog 35 #[.slice Ap1 rs.length cp1, .slice Ap2 us.length cp2] w fun v w' => ∃ M', NewR TokR 4 58 w M w' M' v (batchP rs us 0) := by
  have e0 := Stp.refl w (NoM : MS)
  have hs00 : Ms M M := fun _ h => h
  have hlim := h1.lim
  have hlim2 := h2.lim
  have hr := hg.right
  refine Fc.enter (n := 47) [(0, .slice Ap1 rs.length cp1), (1, .slice Ap2 us.length cp2)] Try.func35 rfl rfl (Nat.le_of_ble_eq_true rfl) (.cons rfl (.cons rfl (.nil _))) ?_
  refine CW.seq ?_
  refine CW.region ?_
  refine WL.assign rfl ?_
  refine WL.nil ?_
  refine CW.seq ?_
  refine CW.region ?_
  refine WL.assign rfl ?_
  refine WL.nil ?_
  refine CW.seq ?_
  refine CW.seq ?_
  refine CW.region ?_
  refine WL.assign rfl ?_
  refine WL.nil ?_
  refine CW.block ?_
  have hO1 : Own TokR 4 58 w M 0 (.slice none 0 0) [] := Own.nil
  refine CW.loop (fun m σ wr0 => ∃ a : Int, ∃ out : List PTok, ∃ Mr2 : MS, ∃ A9 : Option Addr, ∃ n10 : Nat, ∃ c11 : Nat, m = us.length - a.toNat ∧ σ = [(0, .slice Ap1 rs.length cp1), (1, .slice Ap2 us.length cp2), (5, .slice A9 n10 c11), (6, .int .i64 a)] ∧ (Up w M wr0 Mr2) ∧ (Stp w wr0 NoM) ∧ (Ms M Mr2) ∧ (Ms M Mr2) ∧ (Own TokR 4 58 wr0 Mr2 0 (.slice A9 n10 c11) (out)) ∧ (Ms (ob (.slice A9 n10 c11)) Mr2) ∧ (∀ q_, (ob (.slice A9 n10 c11)) q_ → w.heap.size ≤ q_) ∧ (batchP rs us 0 = out ++ batchP rs (us.drop a.toNat) a) ∧ (0 ≤ a) ∧ (a ≤ us.length) ∧ (out.length ≤ a.toNat)) _ _ (.cons (t := 0) rfl (.cons (t := 1) rfl (.cons (t := 5) rfl (.cons (t := 6) rfl (.nil _))))) ⟨0, [], M, none, 0, 0, rfl, rfl, Up.refl hm, e0, fun _ h => h, hs00, hO1, (Ms.nil M), (Fr.nil w.heap.size), by simp, by omega, by omega, by simp⟩ ?_
  rintro m _ wr0 ⟨a, out, Mr2, A9, n10, c11, rfl, rfl, hU3, hE4, hsp6, hsb7, h8, mem12, wr13, hf, ha0, haj, hol⟩
  have hm5 := Up.mb hU3
  obtain rfl := Own.n h8
  have hlen14 := Own.len h8
  have hll := long_le hr (us.drop (a).toNat)
  refine CW.seq ?_
  refine CW.seq ?_
  refine CW.region ?_
  refine WL.move rfl ?_
  refine WL.move rfl ?_
  refine WL.len Try.underlying29 rfl ?_
  refine WL.lss rfl rfl ?_
  refine WL.nil ?_
  refine CW.condP rfl (fun hc15 => ?_) (fun hc15 => ?_)
  · have hne : us.drop (a).toNat ≠ [] := List.length_pos_iff.1 (by simp only [List.length_drop]; omega)
    have htl0 := tok_len hr hne a
    have hdl : (us.drop (a).toNat).length = us.length - a.toNat := List.length_drop
    refine CW.skip ?_
    refine CW.block ?_
    refine CW.seq ?_
    refine CW.region ?_
    refine WL.move rfl ?_
    refine WL.move rfl ?_
    refine WL.move rfl ?_
    obtain ⟨A16, c17, hRn18, hD19, hl20⟩ := SlD.cutL (h2.up hU3) (i := a) (by first | omega | (simp only [List.length_drop]; omega)) (by first | omega | (simp only [List.length_drop]; omega))
    refine WL.rn (hRn18 es29 rfl rfl) ?_
    refine WL.call Try.func75 rfl rfl (.cons rfl (.cons rfl (.nil))) (lawLongest_spec _ _ hm5 (h1.up hU3) hD19 hr) (fun _ w21 hr22 => ?_)
    obtain ⟨rfl, he23⟩ := hr22
    have u24 := Ext.up he23 hm5
    have e25 := Stp.ext hE4 he23
    have hm26 := Up.mb u24
    refine WL.move rfl ?_
    refine WL.extract rfl rfl ?_
    refine WL.extract rfl rfl ?_
    refine WL.extract rfl rfl ?_
    refine WL.assign rfl ?_
    refine WL.assign rfl ?_
    refine WL.assign rfl ?_
    refine WL.nil ?_
    refine CW.seq ?_
    refine CW.seq ?_
    refine CW.region ?_
    refine WL.move rfl ?_
    refine WL.lss rfl rfl ?_
    refine WL.nil ?_
    refine CW.condP rfl (fun hc27 => ?_) (fun hc27 => ?_)
    · have htok : tokP rs (us.drop (a).toNat) a = ⟨a, 1, [], 3⟩ := by unfold tokP; rw [if_pos hc27]
      have htl : (tokP rs (us.drop (a).toNat) a).len = 1 := by rw [htok]
      have htn : a.toNat + (tokP rs (us.drop (a).toNat) a).len.toNat = (a + 1).toNat := by omega
      refine CW.seq ?_
      refine CW.region ?_
      refine WL.move rfl ?_
      refine WL.move rfl ?_
      refine WL.buildP (cs := #[.int .i64 a, .int .i64 1, .slice none 0 0, .int .i64 3]) (.cons rfl (.cons rfl (.cons rfl (.nil)))) (by kernel_rfl) ?_
      refine WL.bslice1 (R := TokR) (y' := (⟨a, 1, [], 3⟩ : PTok)) Try.underlying55 ti58 rfl (by decide) (by decide) rfl ⟨_, rfl, Sl.nil, by simp only [I64]; omega, by simp only [I64]; omega, by simp only [I64]; omega⟩ rfl hm26 (fun v28 w29 hS30 he31 => ?_)
      have u32 := Ext.up he31 hm26
      have e33 := Stp.ext e25 he31
      have hm34 := Up.mb u32
      have h44 := Own.ext h8 he23 u24 (fun _ h => h)
      have h45 := Own.ext h44 he31 u32 (fun _ h => h)
      refine WL.appendR Try.underlying55 ti58 rfl (by decide) rfl rfl h45 (Sl.atl hS30) hm34 (by decide) (by first | omega | (simp; omega)) (fun A35 c36 w37 M38 hO39 hs40 u41 hsub42 hnew43 => ?_)
      have e46 := Stp.wr e33 hs40 (Wr.ofFr NoM wr13)
      have hm47 := Up.mb u41
      have hs048 : Ms M M38 := fun k h => hsub42 k (hsp6 k h)
      have fr50 := Ge.grow wr13 hnew43 (Stp.size e33)
      refine WL.assign rfl ?_
      refine WL.nil ?_
      refine CW.seq ?_
      refine CW.region ?_
      refine WL.move rfl ?_
      refine WL.add rfl rfl (by omega) ?_
      refine WL.assign rfl ?_
      refine WL.nil ?_
      refine CW.exit ?_
      refine Then.ex ?_
      refine Blk.ext ?_
      refine Loop.again _ _ ?_ ?_ ⟨a + 1, out ++ [tokP rs (us.drop (a).toNat) a], M38, A35, (out ++ [(⟨a, 1, [], 3⟩ : PTok)]).length, c36, rfl, rfl, (Up.trans hU3 (Up.trans u24 (Up.trans u32 u41))), e46, hs048, hs048, by rw [htok]; exact hO39, (Own.ms hO39), fr50, by rw [hf, batch_cons rs hne, List.drop_drop, htn, List.append_assoc]; simp only [htl, List.singleton_append], by omega, by omega, by simp only [List.length_append, List.length_cons, List.length_nil]; omega⟩
      · omega
      · exact .cons (t := 0) rfl (.cons (t := 1) rfl (.cons (t := 5) rfl (.cons (t := 6) rfl (.nil _))))
    · have hkl : (longestP rs (us.drop (a).toNat)).1.toNat < rs.length := by omega
      have hop : outP rs (longestP rs (us.drop (a).toNat)).1 = rs[(longestP rs (us.drop (a).toNat)).1.toNat].out := by unfold outP; rw [List.getElem?_eq_getElem hkl]
      have htok : tokP rs (us.drop (a).toNat) a = ⟨a, (longestP rs (us.drop (a).toNat)).2, rs[(longestP rs (us.drop (a).toNat)).1.toNat].out, 0⟩ := by unfold tokP; rw [if_neg hc27, hop]; congr 1; omega
      have htl : (tokP rs (us.drop (a).toNat) a).len = (longestP rs (us.drop (a).toNat)).2 := by rw [htok]
      have htn : a.toNat + (tokP rs (us.drop (a).toNat) a).len.toNat = (a + (longestP rs (us.drop (a).toNat)).2).toNat := by omega
      refine CW.skip ?_
      refine CW.seq ?_
      refine CW.region ?_
      refine WL.move rfl ?_
      refine WL.move rfl ?_
      refine WL.move rfl ?_
      refine WL.move rfl ?_
      refine WL.move rfl ?_
      have hlt51 : ((longestP rs (us.drop (a).toNat)).1).toNat < rs.length := by first | omega | (simp only [List.length_drop]; omega)
      obtain ⟨ad52, cs53, hA54, hs55, hat56, hR57⟩ := SlD.get (h1.up (Up.trans hU3 u24)) (List.getElem?_eq_getElem hlt51)
      obtain ⟨_, _, hx62, ⟨A58, c59, rfl, hD63⟩, ⟨A60, c61, rfl, hD64⟩⟩ := hR57
      rw [hx62] at hat56
      have hl65 := SlD.lim hD63
      have hl66 := SlD.lim hD64
      refine WL.idx es49 rfl rfl hA54 (by omega) (by omega) ?_
      refine WL.fieldAddr fo100_1 rfl ?_
      refine WL.load sc29 rfl (hat56.cell 1 _ rfl) ?_
      refine WL.buildP (cs := #[.int .i64 a, .int .i64 ((longestP rs (us.drop (a).toNat)).2), .slice A60 (rs[((longestP rs (us.drop (a).toNat)).1).toNat].out.length) c61, .int .i64 0]) (.cons rfl (.cons rfl (.cons rfl (.nil)))) (by kernel_rfl) ?_
      refine WL.bslice1 (R := TokR) (y' := (⟨a, (longestP rs (us.drop (a).toNat)).2, rs[((longestP rs (us.drop (a).toNat)).1).toNat].out, 0⟩ : PTok)) Try.underlying55 ti58 rfl (by decide) (by decide) rfl ⟨_, rfl, SlD.sl hD64, by simp only [I64]; omega, by simp only [I64]; omega, by simp only [I64]; omega⟩ rfl hm26 (fun v67 w68 hS69 he70 => ?_)
      have u71 := Ext.up he70 hm26
      have e72 := Stp.ext e25 he70
      have hm73 := Up.mb u71
      have h83 := Own.ext h8 he23 u24 (fun _ h => h)
      have h84 := Own.ext h83 he70 u71 (fun _ h => h)
      refine WL.appendR Try.underlying55 ti58 rfl (by decide) rfl rfl h84 (Sl.atl hS69) hm73 (by decide) (by first | omega | (simp; omega)) (fun A74 c75 w76 M77 hO78 hs79 u80 hsub81 hnew82 => ?_)
      have e85 := Stp.wr e72 hs79 (Wr.ofFr NoM wr13)
      have hm86 := Up.mb u80
      have hs087 : Ms M M77 := fun k h => hsub81 k (hsp6 k h)
      have fr89 := Ge.grow wr13 hnew82 (Stp.size e72)
      refine WL.assign rfl ?_
      refine WL.nil ?_
      refine CW.region ?_
      refine WL.move rfl ?_
      refine WL.move rfl ?_
      refine WL.add rfl rfl (by omega) ?_
      refine WL.assign rfl ?_
      refine WL.nil ?_
      refine Blk.nrm ?_
      refine Loop.again _ _ ?_ ?_ ⟨a + ((longestP rs (us.drop (a).toNat)).2), out ++ [tokP rs (us.drop (a).toNat) a], M77, A74, (out ++ [(⟨a, (longestP rs (us.drop (a).toNat)).2, rs[((longestP rs (us.drop (a).toNat)).1).toNat].out, 0⟩ : PTok)]).length, c75, rfl, rfl, (Up.trans hU3 (Up.trans u24 (Up.trans u71 u80))), e85, hs087, hs087, by rw [htok]; exact hO78, (Own.ms hO78), fr89, by rw [hf, batch_cons rs hne, List.drop_drop, htn, List.append_assoc]; simp only [htl, List.singleton_append], by omega, by omega, by simp only [List.length_append, List.length_cons, List.length_nil]; omega⟩
      · omega
      · exact .cons (t := 0) rfl (.cons (t := 1) rfl (.cons (t := 5) rfl (.cons (t := 6) rfl (.nil _))))
  · refine CW.exit ?_
    refine CW.seq ?_
    refine CW.region ?_
    refine WL.move rfl ?_
    refine WL.assign rfl ?_
    refine WL.nil ?_
    refine CW.ret ?_
    refine Ret.one rfl rfl ?_
    have hd0 : us.drop a.toNat = [] := List.drop_of_length_le (by omega)
    have hfin : batchP rs us 0 = out := by rw [hf, hd0, batch_nil, List.append_nil]
    rw [hfin]
    exact ⟨_, ⟨h8, wr13, hU3, hsp6, hE4⟩⟩

theorem tok_ext {x y : PTok} (h1 : x.at_ = y.at_) (h2 : x.len = y.len) (h3 : x.out = y.out) (h4 : x.err = y.err) : x = y := by
  cases x; cases y; simp only [PTok.mk.injEq] at *; exact ⟨h1, h2, h3, h4⟩

theorem Same_spec (w : World) (M : MS) (hm : MB w M) {Ap1 : Option Addr} {cp1 : Nat} {xs : List PTok} (h1 : SlD TokR 4 w M Ap1 cp1 xs) {Ap2 : Option Addr} {cp2 : Nat} {ys : List PTok} (h2 : SlD TokR 4 w M Ap2 cp2 ys) :
    Fc Try.prog 33 #[.slice Ap1 xs.length cp1, .slice Ap2 ys.length cp2] w fun v w' => v = .bool (decide (xs = ys)) ∧ Ext w w' := by
  have e0 := Stp.refl w (NoM : MS)
  have hs00 : Ms M M := fun _ h => h
  have hlim := h1.lim
  have hlim2 := h2.lim
  refine Fc.enter (n := 68) [(0, .slice Ap1 xs.length cp1), (1, .slice Ap2 ys.length cp2)] Try.func33 rfl rfl (Nat.le_of_ble_eq_true rfl) (.cons rfl (.cons rfl (.nil _))) ?_
  refine CW.seq ?_
  refine CW.region ?_
  refine WL.assign rfl ?_
  refine WL.nil ?_
  refine CW.seq ?_
  refine CW.seq ?_
  refine CW.region ?_
  refine WL.move rfl ?_
  refine WL.len Try.underlying55 rfl ?_
  refine WL.move rfl ?_
  refine WL.len Try.underlying55 rfl ?_
  refine WL.neq rfl rfl ?_
  refine WL.nil ?_
  refine CW.condP rfl (fun hc1 => ?_) (fun hc1 => ?_)
  · have hnl : xs.length ≠ ys.length := by omega
    refine CW.seq ?_
    refine CW.region ?_
    refine WL.assign rfl ?_
    refine WL.nil ?_
    refine CW.ret ?_
    refine Ret.one rfl rfl ?_
    refine ⟨?_, e0⟩
    rw [decide_eq_false (fun e_ => hnl (by rw [e_]))]
  · have hle : xs.length = ys.length := by omega
    refine CW.skip ?_
    refine CW.seq ?_
    refine CW.seq ?_
    refine CW.region ?_
    refine WL.move rfl ?_
    refine WL.len Try.underlying55 rfl ?_
    refine WL.move rfl ?_
    refine WL.nil ?_
    refine CW.block ?_
    refine CW.loop (fun m σ wr0 => ∃ k : Nat, ∃ Mr2 : MS, m = xs.length - k ∧ σ = [(0, .slice Ap1 xs.length cp1), (1, .slice Ap2 ys.length cp2), (12, .int .i64 (xs.length : Int)), (13, .int .i64 (k : Int))] ∧ (Up w M wr0 Mr2) ∧ (Stp w wr0 NoM) ∧ (Ms M Mr2) ∧ (Ms M Mr2) ∧ (k ≤ xs.length) ∧ (xs.take k = ys.take k)) _ _ (.cons (t := 0) rfl (.cons (t := 1) rfl (.cons (t := 12) rfl (.cons (t := 13) rfl (.nil _))))) ⟨0, M, rfl, rfl, Up.refl hm, e0, fun _ h => h, hs00, by omega, by simp⟩ ?_
    rintro m _ wr0 ⟨k, Mr2, rfl, rfl, hU3, hE4, hsp6, hsb7, hk, htk⟩
    have hm5 := Up.mb hU3
    refine CW.seq ?_
    refine CW.region ?_
    refine WL.lss rfl rfl ?_
    refine WL.nil ?_
    refine CW.seq ?_
    refine CW.condP rfl (fun hc8 => ?_) (fun hc8 => ?_)
    · have hkl : k < xs.length := by omega
      have hkl2 : k < ys.length := by omega
      refine CW.skip ?_
      refine CW.seq ?_
      refine CW.block ?_
      refine CW.seq ?_
      refine CW.region ?_
      refine WL.move rfl ?_
      refine WL.assign rfl ?_
      refine WL.nil ?_
      refine CW.seq ?_
      refine CW.drawn [] (fun w1 w' => Ext w1 w') mixed (fun w9 ed10 hh11 => ?_)
      have u13 := Ext.up ed10 hm5
      have e14 := Stp.ext hE4 ed10
      have hm15 := Up.mb u13
      have hcl12 := Stp.refl w9 (fun _ => False)
      refine DW.rF 0 rfl (by kernel_rfl) (fun _ _ _ h => h) (fun w' => Rn.move rfl) ?_
      refine DW.rF 1 rfl (by kernel_rfl) (fun _ _ _ h => h) (fun w' => Rn.move rfl) ?_
      have hlt16 : k < xs.length := by omega
      obtain ⟨ad17, cs18, hA19, hs20, hat21, hR22⟩ := SlD.get (h1.up (Up.trans hU3 u13)) (List.getElem?_eq_getElem hlt16)
      obtain ⟨_, hx25, ⟨A23, c24, rfl, hD26⟩, hi27, hi28, hi29⟩ := hR22
      rw [hx25] at hat21
      have hl30 := SlD.lim hD26
      simp only [I64] at hi27 hi28 hi29
      refine DW.rF 2 rfl (by kernel_rfl) (fun _ _ _ h => h) (fun w' => Rn.idx es55 rfl rfl hA19 (by omega) (by omega)) ?_
      refine DW.rF 3 rfl (by kernel_rfl) (fun _ _ _ h => h) (fun w' => Rn.fieldAddr fo58_0 rfl) ?_
      refine DW.rT 4 rfl (by kernel_rfl) (fun _ _ _ h => h) (fun w' hC => Rn.load sc3 rfl ((hat21.up (Ext.up hC hm15)).cell 0 _ rfl)) ?_
      refine DW.rF 5 rfl (by kernel_rfl) (fun _ _ _ h => h) (fun w' => Rn.move rfl) ?_
      refine DW.rF 6 rfl (by kernel_rfl) (fun _ _ _ h => h) (fun w' => Rn.move rfl) ?_
      have hlt31 : k < ys.length := by omega
      obtain ⟨ad32, cs33, hA34, hs35, hat36, hR37⟩ := SlD.get (h2.up (Up.trans hU3 u13)) (List.getElem?_eq_getElem hlt31)
      obtain ⟨_, hx40, ⟨A38, c39, rfl, hD41⟩, hi42, hi43, hi44⟩ := hR37
      rw [hx40] at hat36
      have hl45 := SlD.lim hD41
      simp only [I64] at hi42 hi43 hi44
      refine DW.rF 7 rfl (by kernel_rfl) (fun _ _ _ h => h) (fun w' => Rn.idx es55 rfl rfl hA34 (by omega) (by omega)) ?_
      refine DW.rF 8 rfl (by kernel_rfl) (fun _ _ _ h => h) (fun w' => Rn.fieldAddr fo58_0 rfl) ?_
      refine DW.rT 9 rfl (by kernel_rfl) (fun _ _ _ h => h) (fun w' hC => Rn.load sc3 rfl ((hat36.up (Ext.up hC hm15)).cell 0 _ rfl)) ?_
      refine DW.rF 10 rfl (by kernel_rfl) (fun _ _ _ h => h) (fun w' => Rn.neq rfl rfl) ?_
      refine DW.rF 11 rfl (by kernel_rfl) (fun _ _ _ h => h) (fun w' => Rn.move rfl) ?_
      by_cases hg46 : xs[k].at_ ≠ ys[k].at_
      · refine DW.sF 12 rfl (by kernel_rfl) (fun _ _ _ h => h) rfl rfl (decide_eq_true hg46) ?_
        refine DW.sF 13 rfl (by kernel_rfl) (fun _ _ _ h => h) rfl rfl (decide_eq_true hg46) ?_
        refine DW.sF 14 rfl (by kernel_rfl) (fun _ _ _ h => h) rfl rfl (decide_eq_true hg46) ?_
        refine DW.sF 15 rfl (by kernel_rfl) (fun _ _ _ h => h) rfl rfl (decide_eq_true hg46) ?_
        refine DW.sF 16 rfl (by kernel_rfl) (fun _ _ _ h => h) rfl rfl (decide_eq_true hg46) ?_
        refine DW.sF 17 rfl (by kernel_rfl) (fun _ _ _ h => h) rfl rfl (decide_eq_true hg46) ?_
        refine DW.sF 18 rfl (by kernel_rfl) (fun _ _ _ h => h) rfl rfl (decide_eq_true hg46) ?_
        refine DW.sF 19 rfl (by kernel_rfl) (fun _ _ _ h => h) rfl rfl (decide_eq_true hg46) ?_
        refine DW.sF 20 rfl (by kernel_rfl) (fun _ _ _ h => h) rfl rfl (decide_eq_true hg46) ?_
        refine DW.sF 21 rfl (by kernel_rfl) (fun _ _ _ h => h) rfl rfl (decide_eq_true hg46) ?_
        refine DW.sF 22 rfl (by kernel_rfl) (fun _ _ _ h => h) rfl rfl (decide_eq_true hg46) ?_
        refine DW.rF 23 rfl (by kernel_rfl) (fun _ _ _ h => h) (fun w' => Rn.pickT (congrArg (fun b => some (Value.bool b)) (decide_eq_true hg46)) rfl) ?_
        refine DW.rF 24 rfl (by kernel_rfl) (fun _ _ _ h => h) (fun w' => Rn.move rfl) ?_
        refine DW.sF 25 rfl (by kernel_rfl) (fun _ _ _ h => h) rfl rfl rfl ?_
        refine DW.sF 26 rfl (by kernel_rfl) (fun _ _ _ h => h) rfl rfl rfl ?_
        refine DW.sF 27 rfl (by kernel_rfl) (fun _ _ _ h => h) rfl rfl rfl ?_
        refine DW.sF 28 rfl (by kernel_rfl) (fun _ _ _ h => h) rfl rfl rfl ?_
        refine DW.sF 29 rfl (by kernel_rfl) (fun _ _ _ h => h) rfl rfl rfl ?_
        refine DW.sF 30 rfl (by kernel_rfl) (fun _ _ _ h => h) rfl rfl rfl ?_
        refine DW.sF 31 rfl (by kernel_rfl) (fun _ _ _ h => h) rfl rfl rfl ?_
        refine DW.sF 32 rfl (by kernel_rfl) (fun _ _ _ h => h) rfl rfl rfl ?_
        refine DW.sF 33 rfl (by kernel_rfl) (fun _ _ _ h => h) rfl rfl rfl ?_
        refine DW.sF 34 rfl (by kernel_rfl) (fun _ _ _ h => h) rfl rfl rfl ?_
        refine DW.sF 35 rfl (by kernel_rfl) (fun _ _ _ h => h) rfl rfl rfl ?_
        refine DW.rF 36 rfl (by kernel_rfl) (fun _ _ _ h => h) (fun w' => Rn.pickT rfl rfl) ?_
        refine DW.rF 37 rfl (by kernel_rfl) (fun _ _ _ h => h) (fun w' => Rn.move rfl) ?_
        refine DW.sF 38 rfl (by kernel_rfl) (fun _ _ _ h => h) rfl rfl rfl ?_
        refine DW.sF 39 rfl (by kernel_rfl) (fun _ _ _ h => h) rfl rfl rfl ?_
        refine DW.sF 40 rfl (by kernel_rfl) (fun _ _ _ h => h) rfl rfl rfl ?_
        refine DW.sF 41 rfl (by kernel_rfl) (fun _ _ _ h => h) rfl rfl rfl ?_
        refine DW.sF 42 rfl (by kernel_rfl) (fun _ _ _ h => h) rfl rfl rfl ?_
        refine DW.sF 43 rfl (by kernel_rfl) (fun _ _ _ h => h) rfl rfl rfl ?_
        refine DW.sF 44 rfl (by kernel_rfl) (fun _ _ _ h => h) rfl rfl rfl ?_
        refine DW.sF 45 rfl (by kernel_rfl) (fun _ _ _ h => h) rfl rfl rfl ?_
        refine DW.sF 46 rfl (by kernel_rfl) (fun _ _ _ h => h) rfl rfl rfl ?_
        refine DW.sF 47 rfl (by kernel_rfl) (fun _ _ _ h => h) rfl rfl rfl ?_
        refine DW.sF 48 rfl (by kernel_rfl) (fun _ _ _ h => h) rfl rfl rfl ?_
        refine DW.sF 49 rfl (by kernel_rfl) (fun _ _ _ h => h) rfl rfl rfl ?_
        refine DW.rF 50 rfl (by kernel_rfl) (fun _ _ _ h => h) (fun w' => Rn.pickT rfl rfl) ?_
        refine DW.done (by kernel_rfl) (fun _ => hcl12) ?_
        refine CW.condT rfl ?_
        have hneq : xs[k] ≠ ys[k] := by intro he_; simp_all
        refine CW.seq ?_
        refine CW.region ?_
        refine WL.assign rfl ?_
        refine WL.nil ?_
        refine CW.ret ?_
        refine Ret.one rfl rfl ?_
        refine ⟨?_, e14⟩
        rw [decide_eq_false (fun e_ => hneq (by simp only [e_]))]
      · refine DW.gF 12 rfl (by kernel_rfl) (fun _ _ _ h => h) rfl rfl (decide_eq_false hg46) (fun w' => Rn.move rfl) ?_
        refine DW.gF 13 rfl (by kernel_rfl) (fun _ _ _ h => h) rfl rfl (decide_eq_false hg46) (fun w' => Rn.move rfl) ?_
        have hlt47 : k < xs.length := by omega
        obtain ⟨ad48, cs49, hA50, hs51, hat52, hR53⟩ := SlD.get (h1.up (Up.trans hU3 u13)) (List.getElem?_eq_getElem hlt47)
        obtain ⟨_, hx56, ⟨A54, c55, rfl, hD57⟩, hi58, hi59, hi60⟩ := hR53
        rw [hx56] at hat52
        have hl61 := SlD.lim hD57
        simp only [I64] at hi58 hi59 hi60
        refine DW.gF 14 rfl (by kernel_rfl) (fun _ _ _ h => h) rfl rfl (decide_eq_false hg46) (fun w' => Rn.idx es55 rfl rfl hA50 (by omega) (by omega)) ?_
        refine DW.gF 15 rfl (by kernel_rfl) (fun _ _ _ h => h) rfl rfl (decide_eq_false hg46) (fun w' => Rn.fieldAddr fo58_1 rfl) ?_
        refine DW.gT 16 rfl (by kernel_rfl) (fun _ _ _ h => h) rfl rfl (decide_eq_false hg46) (fun w' hC => Rn.load sc3 rfl ((hat52.up (Ext.up hC hm15)).cell 1 _ rfl)) ?_
        refine DW.gF 17 rfl (by kernel_rfl) (fun _ _ _ h => h) rfl rfl (decide_eq_false hg46) (fun w' => Rn.move rfl) ?_
        refine DW.gF 18 rfl (by kernel_rfl) (fun _ _ _ h => h) rfl rfl (decide_eq_false hg46) (fun w' => Rn.move rfl) ?_
        have hlt62 : k < ys.length := by omega
        obtain ⟨ad63, cs64, hA65, hs66, hat67, hR68⟩ := SlD.get (h2.up (Up.trans hU3 u13)) (List.getElem?_eq_getElem hlt62)
        obtain ⟨_, hx71, ⟨A69, c70, rfl, hD72⟩, hi73, hi74, hi75⟩ := hR68
        rw [hx71] at hat67
        have hl76 := SlD.lim hD72
        simp only [I64] at hi73 hi74 hi75
        refine DW.gF 19 rfl (by kernel_rfl) (fun _ _ _ h => h) rfl rfl (decide_eq_false hg46) (fun w' => Rn.idx es55 rfl rfl hA65 (by omega) (by omega)) ?_
        refine DW.gF 20 rfl (by kernel_rfl) (fun _ _ _ h => h) rfl rfl (decide_eq_false hg46) (fun w' => Rn.fieldAddr fo58_1 rfl) ?_
        refine DW.gT 21 rfl (by kernel_rfl) (fun _ _ _ h => h) rfl rfl (decide_eq_false hg46) (fun w' hC => Rn.load sc3 rfl ((hat67.up (Ext.up hC hm15)).cell 1 _ rfl)) ?_
        refine DW.gF 22 rfl (by kernel_rfl) (fun _ _ _ h => h) rfl rfl (decide_eq_false hg46) (fun w' => Rn.neq rfl rfl) ?_
        refine DW.rF 23 rfl (by kernel_rfl) (fun _ _ _ h => h) (fun w' => Rn.pickF (congrArg (fun b => some (Value.bool b)) (decide_eq_false hg46)) rfl) ?_
        refine DW.rF 24 rfl (by kernel_rfl) (fun _ _ _ h => h) (fun w' => Rn.move rfl) ?_
        by_cases hg77 : xs[k].len ≠ ys[k].len
        · refine DW.sF 25 rfl (by kernel_rfl) (fun _ _ _ h => h) rfl rfl (decide_eq_true hg77) ?_
          refine DW.sF 26 rfl (by kernel_rfl) (fun _ _ _ h => h) rfl rfl (decide_eq_true hg77) ?_
          refine DW.sF 27 rfl (by kernel_rfl) (fun _ _ _ h => h) rfl rfl (decide_eq_true hg77) ?_
          refine DW.sF 28 rfl (by kernel_rfl) (fun _ _ _ h => h) rfl rfl (decide_eq_true hg77) ?_
          refine DW.sF 29 rfl (by kernel_rfl) (fun _ _ _ h => h) rfl rfl (decide_eq_true hg77) ?_
          refine DW.sF 30 rfl (by kernel_rfl) (fun _ _ _ h => h) rfl rfl (decide_eq_true hg77) ?_
          refine DW.sF 31 rfl (by kernel_rfl) (fun _ _ _ h => h) rfl rfl (decide_eq_true hg77) ?_
          refine DW.sF 32 rfl (by kernel_rfl) (fun _ _ _ h => h) rfl rfl (decide_eq_true hg77) ?_
          refine DW.sF 33 rfl (by kernel_rfl) (fun _ _ _ h => h) rfl rfl (decide_eq_true hg77) ?_
          refine DW.sF 34 rfl (by kernel_rfl) (fun _ _ _ h => h) rfl rfl (decide_eq_true hg77) ?_
          refine DW.sF 35 rfl (by kernel_rfl) (fun _ _ _ h => h) rfl rfl (decide_eq_true hg77) ?_
          refine DW.rF 36 rfl (by kernel_rfl) (fun _ _ _ h => h) (fun w' => Rn.pickT (congrArg (fun b => some (Value.bool b)) (decide_eq_true hg77)) rfl) ?_
          refine DW.rF 37 rfl (by kernel_rfl) (fun _ _ _ h => h) (fun w' => Rn.move rfl) ?_
          refine DW.sF 38 rfl (by kernel_rfl) (fun _ _ _ h => h) rfl rfl rfl ?_
          refine DW.sF 39 rfl (by kernel_rfl) (fun _ _ _ h => h) rfl rfl rfl ?_
          refine DW.sF 40 rfl (by kernel_rfl) (fun _ _ _ h => h) rfl rfl rfl ?_
          refine DW.sF 41 rfl (by kernel_rfl) (fun _ _ _ h => h) rfl rfl rfl ?_
          refine DW.sF 42 rfl (by kernel_rfl) (fun _ _ _ h => h) rfl rfl rfl ?_
          refine DW.sF 43 rfl (by kernel_rfl) (fun _ _ _ h => h) rfl rfl rfl ?_
          refine DW.sF 44 rfl (by kernel_rfl) (fun _ _ _ h => h) rfl rfl rfl ?_
          refine DW.sF 45 rfl (by kernel_rfl) (fun _ _ _ h => h) rfl rfl rfl ?_
          refine DW.sF 46 rfl (by kernel_rfl) (fun _ _ _ h => h) rfl rfl rfl ?_
          refine DW.sF 47 rfl (by kernel_rfl) (fun _ _ _ h => h) rfl rfl rfl ?_
          refine DW.sF 48 rfl (by kernel_rfl) (fun _ _ _ h => h) rfl rfl rfl ?_
          refine DW.sF 49 rfl (by kernel_rfl) (fun _ _ _ h => h) rfl rfl rfl ?_
          refine DW.rF 50 rfl (by kernel_rfl) (fun _ _ _ h => h) (fun w' => Rn.pickT rfl rfl) ?_
          refine DW.done (by kernel_rfl) (fun _ => hcl12) ?_
          refine CW.condT rfl ?_
          have hneq : xs[k] ≠ ys[k] := by intro he_; simp_all
          refine CW.seq ?_
          refine CW.region ?_
          refine WL.assign rfl ?_
          refine WL.nil ?_
          refine CW.ret ?_
          refine Ret.one rfl rfl ?_
          refine ⟨?_, e14⟩
          rw [decide_eq_false (fun e_ => hneq (by simp only [e_]))]
        · refine DW.gF 25 rfl (by kernel_rfl) (fun _ _ _ h => h) rfl rfl (decide_eq_false hg77) (fun w' => Rn.move rfl) ?_
          refine DW.gF 26 rfl (by kernel_rfl) (fun _ _ _ h => h) rfl rfl (decide_eq_false hg77) (fun w' => Rn.move rfl) ?_
          have hlt78 : k < xs.length := by omega
          obtain ⟨ad79, cs80, hA81, hs82, hat83, hR84⟩ := SlD.get (h1.up (Up.trans hU3 u13)) (List.getElem?_eq_getElem hlt78)
          obtain ⟨_, hx87, ⟨A85, c86, rfl, hD88⟩, hi89, hi90, hi91⟩ := hR84
          rw [hx87] at hat83
          have hl92 := SlD.lim hD88
          simp only [I64] at hi89 hi90 hi91
          refine DW.gF 27 rfl (by kernel_rfl) (fun _ _ _ h => h) rfl rfl (decide_eq_false hg77) (fun w' => Rn.idx es55 rfl rfl hA81 (by omega) (by omega)) ?_
          refine DW.gF 28 rfl (by kernel_rfl) (fun _ _ _ h => h) rfl rfl (decide_eq_false hg77) (fun w' => Rn.fieldAddr fo58_3 rfl) ?_
          refine DW.gT 29 rfl (by kernel_rfl) (fun _ _ _ h => h) rfl rfl (decide_eq_false hg77) (fun w' hC => Rn.load sc46 rfl ((hat83.up (Ext.up hC hm15)).cell 3 _ rfl)) ?_
          refine DW.gF 30 rfl (by kernel_rfl) (fun _ _ _ h => h) rfl rfl (decide_eq_false hg77) (fun w' => Rn.move rfl) ?_
          refine DW.gF 31 rfl (by kernel_rfl) (fun _ _ _ h => h) rfl rfl (decide_eq_false hg77) (fun w' => Rn.move rfl) ?_
          have hlt93 : k < ys.length := by omega
          obtain ⟨ad94, cs95, hA96, hs97, hat98, hR99⟩ := SlD.get (h2.up (Up.trans hU3 u13)) (List.getElem?_eq_getElem hlt93)
          obtain ⟨_, hx102, ⟨A100, c101, rfl, hD103⟩, hi104, hi105, hi106⟩ := hR99
          rw [hx102] at hat98
          have hl107 := SlD.lim hD103
          simp only [I64] at hi104 hi105 hi106
          refine DW.gF 32 rfl (by kernel_rfl) (fun _ _ _ h => h) rfl rfl (decide_eq_false hg77) (fun w' => Rn.idx es55 rfl rfl hA96 (by omega) (by omega)) ?_
          refine DW.gF 33 rfl (by kernel_rfl) (fun _ _ _ h => h) rfl rfl (decide_eq_false hg77) (fun w' => Rn.fieldAddr fo58_3 rfl) ?_
          refine DW.gT 34 rfl (by kernel_rfl) (fun _ _ _ h => h) rfl rfl (decide_eq_false hg77) (fun w' hC => Rn.load sc46 rfl ((hat98.up (Ext.up hC hm15)).cell 3 _ rfl)) ?_
          refine DW.gF 35 rfl (by kernel_rfl) (fun _ _ _ h => h) rfl rfl (decide_eq_false hg77) (fun w' => Rn.neq rfl rfl) ?_
          refine DW.rF 36 rfl (by kernel_rfl) (fun _ _ _ h => h) (fun w' => Rn.pickF (congrArg (fun b => some (Value.bool b)) (decide_eq_false hg77)) rfl) ?_
          refine DW.rF 37 rfl (by kernel_rfl) (fun _ _ _ h => h) (fun w' => Rn.move rfl) ?_
          by_cases hg108 : xs[k].err ≠ ys[k].err
          · refine DW.sF 38 rfl (by kernel_rfl) (fun _ _ _ h => h) rfl rfl (decide_eq_true hg108) ?_
            refine DW.sF 39 rfl (by kernel_rfl) (fun _ _ _ h => h) rfl rfl (decide_eq_true hg108) ?_
            refine DW.sF 40 rfl (by kernel_rfl) (fun _ _ _ h => h) rfl rfl (decide_eq_true hg108) ?_
            refine DW.sF 41 rfl (by kernel_rfl) (fun _ _ _ h => h) rfl rfl (decide_eq_true hg108) ?_
            refine DW.sF 42 rfl (by kernel_rfl) (fun _ _ _ h => h) rfl rfl (decide_eq_true hg108) ?_
            refine DW.sF 43 rfl (by kernel_rfl) (fun _ _ _ h => h) rfl rfl (decide_eq_true hg108) ?_
            refine DW.sF 44 rfl (by kernel_rfl) (fun _ _ _ h => h) rfl rfl (decide_eq_true hg108) ?_
            refine DW.sF 45 rfl (by kernel_rfl) (fun _ _ _ h => h) rfl rfl (decide_eq_true hg108) ?_
            refine DW.sF 46 rfl (by kernel_rfl) (fun _ _ _ h => h) rfl rfl (decide_eq_true hg108) ?_
            refine DW.sF 47 rfl (by kernel_rfl) (fun _ _ _ h => h) rfl rfl (decide_eq_true hg108) ?_
            refine DW.sF 48 rfl (by kernel_rfl) (fun _ _ _ h => h) rfl rfl (decide_eq_true hg108) ?_
            refine DW.sF 49 rfl (by kernel_rfl) (fun _ _ _ h => h) rfl rfl (decide_eq_true hg108) ?_
            refine DW.rF 50 rfl (by kernel_rfl) (fun _ _ _ h => h) (fun w' => Rn.pickT (congrArg (fun b => some (Value.bool b)) (decide_eq_true hg108)) rfl) ?_
            refine DW.done (by kernel_rfl) (fun _ => hcl12) ?_
            refine CW.condT rfl ?_
            have hneq : xs[k] ≠ ys[k] := by intro he_; simp_all
            refine CW.seq ?_
            refine CW.region ?_
            refine WL.assign rfl ?_
            refine WL.nil ?_
            refine CW.ret ?_
            refine Ret.one rfl rfl ?_
            refine ⟨?_, e14⟩
            rw [decide_eq_false (fun e_ => hneq (by simp only [e_]))]
          · refine DW.gF 38 rfl (by kernel_rfl) (fun _ _ _ h => h) rfl rfl (decide_eq_false hg108) (fun w' => Rn.move rfl) ?_
            refine DW.gF 39 rfl (by kernel_rfl) (fun _ _ _ h => h) rfl rfl (decide_eq_false hg108) (fun w' => Rn.move rfl) ?_
            have hlt109 : k < xs.length := by omega
            obtain ⟨ad110, cs111, hA112, hs113, hat114, hR115⟩ := SlD.get (h1.up (Up.trans hU3 u13)) (List.getElem?_eq_getElem hlt109)
            obtain ⟨_, hx118, ⟨A116, c117, rfl, hD119⟩, hi120, hi121, hi122⟩ := hR115
            rw [hx118] at hat114
            have hl123 := SlD.lim hD119
            simp only [I64] at hi120 hi121 hi122
            refine DW.gF 40 rfl (by kernel_rfl) (fun _ _ _ h => h) rfl rfl (decide_eq_false hg108) (fun w' => Rn.idx es55 rfl rfl hA112 (by omega) (by omega)) ?_
            refine DW.gF 41 rfl (by kernel_rfl) (fun _ _ _ h => h) rfl rfl (decide_eq_false hg108) (fun w' => Rn.fieldAddr fo58_2 rfl) ?_
            refine DW.gT 42 rfl (by kernel_rfl) (fun _ _ _ h => h) rfl rfl (decide_eq_false hg108) (fun w' hC => Rn.load sc29 rfl ((hat114.up (Ext.up hC hm15)).cell 2 _ rfl)) ?_
            refine DW.gF 43 rfl (by kernel_rfl) (fun _ _ _ h => h) rfl rfl (decide_eq_false hg108) (fun w' => Rn.move rfl) ?_
            refine DW.gF 44 rfl (by kernel_rfl) (fun _ _ _ h => h) rfl rfl (decide_eq_false hg108) (fun w' => Rn.move rfl) ?_
            have hlt124 : k < ys.length := by omega
            obtain ⟨ad125, cs126, hA127, hs128, hat129, hR130⟩ := SlD.get (h2.up (Up.trans hU3 u13)) (List.getElem?_eq_getElem hlt124)
            obtain ⟨_, hx133, ⟨A131, c132, rfl, hD134⟩, hi135, hi136, hi137⟩ := hR130
            rw [hx133] at hat129
            have hl138 := SlD.lim hD134
            simp only [I64] at hi135 hi136 hi137
            refine DW.gF 45 rfl (by kernel_rfl) (fun _ _ _ h => h) rfl rfl (decide_eq_false hg108) (fun w' => Rn.idx es55 rfl rfl hA127 (by omega) (by omega)) ?_
            refine DW.gF 46 rfl (by kernel_rfl) (fun _ _ _ h => h) rfl rfl (decide_eq_false hg108) (fun w' => Rn.fieldAddr fo58_2 rfl) ?_
            refine DW.gT 47 rfl (by kernel_rfl) (fun _ _ _ h => h) rfl rfl (decide_eq_false hg108) (fun w' hC => Rn.load sc29 rfl ((hat129.up (Ext.up hC hm15)).cell 2 _ rfl)) ?_
            refine DW.only 48 (by kernel_rfl) rfl (fun _ => hcl12) ?_
            refine WL.gtake rfl rfl (decide_eq_false hg108) ?_
            refine WL.call Try.func39 rfl rfl (.cons rfl (.cons rfl (.nil))) (Units_spec _ _ hm15 hD119 hD134) (fun _ w139 hr140 => ?_)
            obtain ⟨rfl, he141⟩ := hr140
            have u142 := Ext.up he141 hm15
            have e143 := Stp.ext e14 he141
            have hm144 := Up.mb u142
            have hcl145 := Stp.ext hcl12 he141
            refine WL.nil ?_
            refine DW.gF 49 rfl (by kernel_rfl) (fun _ _ _ h => h) rfl rfl (decide_eq_false hg108) (fun w' => Rn.not_ rfl) ?_
            refine DW.rF 50 rfl (by kernel_rfl) (fun _ _ _ h => h) (fun w' => Rn.pickF (congrArg (fun b => some (Value.bool b)) (decide_eq_false hg108)) rfl) ?_
            refine DW.done (by kernel_rfl) (fun _ => hcl145) ?_
            refine CW.condB rfl (fun hc146 => ?_) (fun hc146 => ?_)
            · have hn147 : ¬ (xs[k].out = ys[k].out) := by simpa using hc146
              have hneq : xs[k] ≠ ys[k] := by intro he_; simp_all
              refine CW.seq ?_
              refine CW.region ?_
              refine WL.assign rfl ?_
              refine WL.nil ?_
              refine CW.ret ?_
              refine Ret.one rfl rfl ?_
              refine ⟨?_, e143⟩
              rw [decide_eq_false (fun e_ => hneq (by simp only [e_]))]
            · have hn148 : xs[k].out = ys[k].out := by simpa using hc146
              have heq : xs[k] = ys[k] := tok_ext (by first | omega | assumption) (by first | omega | assumption) (by first | assumption | simp_all) (by first | omega | assumption)
              refine CW.skip ?_
              refine CW.region ?_
              refine WL.add rfl rfl (by omega) ?_
              refine WL.move rfl ?_
              refine WL.nil ?_
              refine Loop.again _ _ ?_ ?_ ⟨k + 1, Mr2, rfl, rfl, (Up.trans hU3 (Up.trans u13 u142)), e143, hsp6, hsp6, by omega, by rw [List.take_succ_eq_append_getElem hkl, List.take_succ_eq_append_getElem (show k < ys.length by omega), htk, heq]⟩
              · omega
              · exact .cons (t := 0) rfl (.cons (t := 1) rfl (.cons (t := 12) rfl (.cons (t := 13) rfl (.nil _))))
    · refine CW.exit ?_
      refine CW.seq ?_
      refine CW.region ?_
      refine WL.assign rfl ?_
      refine WL.nil ?_
      refine CW.ret ?_
      refine Ret.one rfl rfl ?_
      refine ⟨?_, hE4⟩
      have : xs = ys := by
        have h3 : k = xs.length := by omega
        rw [h3, List.take_length, hle, List.take_length] at htk
        exact htk
      rw [decide_eq_true this]
end Go.Proofs.Ytgbajkdomcmblaa
