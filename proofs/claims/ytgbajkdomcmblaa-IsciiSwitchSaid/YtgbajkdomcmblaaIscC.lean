/- The laws' scalars and bytes of ISCII: walks. -/
import Derived.Test.YtgbajkdomcmblaaIscB
namespace Go.Proofs.Ytgbajkdomcmblaa
open Go Go.RowKit Vc
set_option linter.unusedVariables false
set_option linter.unusedSimpArgs false
private theorem mixed : Try.prog.follows .mixedOrders = true := by kernel_rfl
private theorem es29 : elemSize Try.prog 29 = some 1 := by kernel_rfl
private theorem es44 : elemSize Try.prog 44 = some 1 := by kernel_rfl
private theorem sc3 : scalar Try.prog 3 = true := by kernel_rfl
private theorem sc5 : scalar Try.prog 5 = true := by kernel_rfl
private theorem ti3 : tinfo Try.prog 3 = some (some (.int .i64 0), 1, 8) := by kernel_rfl
def oddL : List Int := [8204, 8205, 2404, 97, 2364, 2381, 2509, 2492, 2314, 3349]
def byL : List Int := [232, 233, 234, 217, 240, 184, 191, 161, 239, 66]
def sclOf (b : Int) : Int := if b < 30 then oddL.getD (b % 10).toNat 0 else if b < 140 then 2304 + b % 128 else if b < 220 then 2432 + b % 128 else 2304 + 128 * (b % 9) + 21
def sclP (l : List Int) : List Int := (l.take 60).map sclOf
def bytOf (b : Int) : List Int := if b < 20 then [239, codesL.getD (b % 9).toNat 0] else if b < 60 then [byL.getD (b % 10).toNat 0] else [b]
def bytesP (l : List Int) : List Int := (l.take 60).flatMap bytOf
theorem odd_get (b : Int) (h : (b % 10).toNat < oddL.length) : oddL[(b % 10).toNat] = oddL.getD (b % 10).toNat 0 := by simp [List.getD, List.getElem?_eq_getElem h]
theorem by_get (b : Int) (h : (b % 10).toNat < byL.length) : byL[(b % 10).toNat] = byL.getD (b % 10).toNat 0 := by simp [List.getD, List.getElem?_eq_getElem h]
theorem byt_len (l : List Int) : (l.flatMap bytOf).length ≤ 2 * l.length := by
  induction l with
  | nil => simp
  | cons b l ih =>
    rw [List.flatMap_cons, List.length_append, List.length_cons]
    have : (bytOf b).length ≤ 2 := by unfold bytOf; split <;> (try split) <;> simp
    omega

theorem scalars_spec (w : World) (M : MS) (hm : MB w M) {Ap1 : Option Addr} {cp1 : Nat} {xs : List Int} (h1 : SlD ByteR 1 w M Ap1 cp1 xs) :
    Fc Try.prog 47 #[.slice Ap1 xs.length cp1] w fun v w' => ∃ M', NewR IntR 1 3 w M w' M' v (sclP xs) := by
  have e0 := Stp.refl w (NoM : MS)
  have hs00 : Ms M M := fun _ h => h
  have hlim := h1.lim
  have htl : (xs.take 60).length ≤ 60 := by simp; omega
  refine Fc.enter (n := 58) [(0, .slice Ap1 xs.length cp1)] Try.func47 rfl rfl (Nat.le_of_ble_eq_true rfl) (.cons rfl (.nil _)) ?_
  refine CW.seq ?_
  refine CW.region ?_
  refine WL.assign rfl ?_
  refine WL.nil ?_
  refine CW.seq ?_
  refine CW.region ?_
  refine WL.assign rfl ?_
  refine WL.nil ?_
  refine CW.seq ?_
  refine CW.seq ?_
  refine CW.region ?_
  refine WL.move rfl ?_
  refine WL.move rfl ?_
  refine WL.len Try.underlying44 rfl ?_
  refine WL.imin rfl rfl ?_
  obtain ⟨A1, c2, hRn3, hD4, hl5⟩ := SlD.cutH h1 (i := min (xs.length : Int) 60) (by (first | omega | (show _ < 10; omega))) (by (first | omega | (show _ < 10; omega)))
  have hy6 : (xs.take (min (xs.length : Int) 60).toNat) = xs.take 60 := by exact take_min xs 60
  rw [hy6] at hD4 hl5
  simp only [hy6] at hRn3
  refine WL.rn (hRn3 es44 rfl rfl) ?_
  refine WL.len Try.underlying44 rfl ?_
  refine WL.move rfl ?_
  refine WL.nil ?_
  refine CW.block ?_
  have hO7 : Own IntR 1 3 w M 0 (.slice none 0 0) [] := Own.nil
  refine CW.loop (fun m σ wr0 => ∃ k : Nat, ∃ Mr8 : MS, ∃ A15 : Option Addr, ∃ n16 : Nat, ∃ c17 : Nat, m = (xs.take 60).length - k ∧ σ = [(3, .slice A15 n16 c17), (10, .slice A1 ((xs.take 60).length) c2), (11, .int .i64 ((xs.take 60).length : Int)), (12, .int .i64 (k : Int))] ∧ (Up w M wr0 Mr8) ∧ (Stp w wr0 NoM) ∧ (Ms M Mr8) ∧ (Ms M Mr8) ∧ (Own IntR 1 3 wr0 Mr8 0 (.slice A15 n16 c17) (((xs.take 60).take k).map sclOf)) ∧ (Ms (ob (.slice A15 n16 c17)) Mr8) ∧ (∀ q_, (ob (.slice A15 n16 c17)) q_ → w.heap.size ≤ q_) ∧ (k ≤ (xs.take 60).length)) _ _ (.cons (t := 3) rfl (.cons (t := 10) rfl (.cons (t := 11) rfl (.cons (t := 12) rfl (.nil _))))) ⟨0, M, none, 0, 0, rfl, rfl, Up.refl hm, e0, fun _ h => h, hs00, hO7, (Ms.nil M), (Fr.nil w.heap.size), by omega⟩ ?_
  rintro m _ wr0 ⟨k, Mr8, A15, n16, c17, rfl, rfl, hU9, hE10, hsp12, hsb13, h14, mem18, wr19, hk⟩
  have hm11 := Up.mb hU9
  obtain rfl := Own.n h14
  have hlen20 := Own.len h14
  have hol : (((xs.take 60).take k).map sclOf).length = k := by simp; omega
  refine CW.seq ?_
  refine CW.region ?_
  refine WL.lss rfl rfl ?_
  refine WL.nil ?_
  refine CW.seq ?_
  refine CW.condP rfl (fun hc21 => ?_) (fun hc21 => ?_)
  · have hkl : k < (xs.take 60).length := by omega
    refine CW.skip ?_
    refine CW.seq ?_
    refine CW.block ?_
    refine CW.seq ?_
    refine CW.region ?_
    have hlt22 : k < (xs.take 60).length := by (first | omega | (show _ < 10; omega))
    obtain ⟨ad23, cs24, hA25, hs26, hat27, hR28⟩ := SlD.get (hD4.up hU9) (List.getElem?_eq_getElem hlt22)
    rw [show _ = _ from hR28.1] at hat27
    have hhR28 := hR28.2
    refine WL.idx es44 rfl rfl hA25 (by omega) (by omega) ?_
    refine WL.load sc5 rfl (hat27.cell 0 _ rfl) ?_
    refine WL.assign rfl ?_
    refine WL.nil ?_
    refine CW.block ?_
    refine CW.seq ?_
    refine CW.region ?_
    refine WL.move rfl ?_
    refine WL.lss rfl rfl ?_
    refine WL.assign rfl ?_
    refine WL.nil ?_
    refine CW.condP rfl (fun hc29 => ?_) (fun hc29 => ?_)
    · refine CW.region ?_
      refine WL.move rfl ?_
      refine WL.bslice Try.underlying29 ti3 rfl (by decide) (by decide) (.cons rfl (.cons rfl (.cons rfl (.cons rfl (.cons rfl (.cons rfl (.cons rfl (.cons rfl (.cons rfl (.cons rfl (.nil))))))))))) rfl (by simp [Value.cells]) (fun g30 w31 hg32 hb33 he34 => ?_)
      have hD35 : SlD IntR 1 w31 Mr8 (some ⟨g30, 0, none⟩) 10 ([8204, 8205, 2404, 97, 2364, 2381, 2509, 2492, 2314, 3349] : List Int) := Bk.ints (xs := [8204, 8205, 2404, 97, 2364, 2381, 2509, 2492, 2314, 3349]) hb33 (by decide) (MB.fresh hm11 hg32) (Nat.le_of_ble_eq_true rfl)
      have u36 := Ext.up he34 hm11
      have e37 := Stp.ext hE10 he34
      have hm38 := Up.mb u36
      change SlD IntR 1 _ _ _ _ oddL at hD35
      refine WL.move rfl ?_
      refine WL.rem rfl rfl (by omega) (by omega) ?_
      have hlt39 : (((xs.take 60)[k]) % 10).toNat < oddL.length := by (first | omega | (show _ < 10; omega))
      obtain ⟨ad40, cs41, hA42, hs43, hat44, hR45⟩ := SlD.get hD35 (List.getElem?_eq_getElem hlt39)
      rw [show _ = _ from hR45.1] at hat44
      have hhR45 := hR45.2; simp only [I64] at hhR45
      refine WL.idx es29 rfl rfl hA42 (by omega) (by omega) ?_
      refine WL.load sc3 rfl (hat44.cell 0 _ rfl) ?_
      refine WL.bslice1 (R := IntR) (y' := oddL[(((xs.take 60)[k]) % 10).toNat]) Try.underlying29 ti3 rfl (by decide) (by decide) rfl ⟨rfl, by omega⟩ rfl hm38 (fun v46 w47 hS48 he49 => ?_)
      obtain ⟨A50, c51, rfl, hD52⟩ := hS48
      have u53 := Ext.up he49 hm38
      have e54 := Stp.ext e37 he49
      have hm55 := Up.mb u53
      have h65 := Own.ext h14 he34 u36 (fun _ h => h)
      have h66 := Own.ext h65 he49 u53 (fun _ h => h)
      refine WL.appendR Try.underlying29 ti3 rfl (by decide) rfl rfl h66 (Sl.atl (SlD.sl hD52)) hm55 (by decide) (by first | omega | (simp; omega)) (fun A56 c57 w58 M59 hO60 hs61 u62 hsub63 hnew64 => ?_)
      have e67 := Stp.wr e54 hs61 (Wr.ofFr NoM wr19)
      have hm68 := Up.mb u62
      have hs069 : Ms M M59 := fun k h => hsub63 k (hsb13 k h)
      have fr71 := Ge.grow wr19 hnew64 (Stp.size e54)
      refine WL.assign rfl ?_
      refine WL.nil ?_
      refine CW.region ?_
      refine WL.add rfl rfl (by omega) ?_
      refine WL.move rfl ?_
      refine WL.nil ?_
      have hsv : (xs.take 60).take (k + 1) = (xs.take 60).take k ++ [(xs.take 60)[k]] := List.take_succ_eq_append_getElem hkl
      refine Loop.again _ _ ?_ ?_ ⟨k + 1, M59, A56, ((((xs.take 60).take k).map sclOf) ++ [oddL[(((xs.take 60)[k]) % 10).toNat]]).length, c57, rfl, rfl, (Up.trans hU9 (Up.trans u36 (Up.trans u53 u62))), e67, hs069, hs069, Own.eq hO60 (by rw [hsv, List.map_append]; congr 1; exact congrArg (fun z => [z]) (by unfold sclOf; (repeat (first | rw [if_pos (by omega)] | rw [if_neg (by omega)])); try exact odd_get _ (by omega))), (Own.ms hO60), fr71, by omega⟩
      · omega
      · exact .cons (t := 3) rfl (.cons (t := 10) rfl (.cons (t := 11) rfl (.cons (t := 12) rfl (.nil _))))
    · refine CW.seq ?_
      refine CW.region ?_
      refine WL.move rfl ?_
      refine WL.lss rfl rfl ?_
      refine WL.assign rfl ?_
      refine WL.nil ?_
      refine CW.condP rfl (fun hc72 => ?_) (fun hc72 => ?_)
      · refine CW.region ?_
        refine WL.move rfl ?_
        refine WL.move rfl ?_
        refine WL.convert (by rw [Try.underlying5]; rfl) Try.underlying3 rfl (wrapI64 (by omega)) ?_
        refine WL.rem rfl rfl (by omega) (by omega) ?_
        refine WL.add rfl rfl (by omega) ?_
        refine WL.bslice1 (R := IntR) (y' := 2304 + (((xs.take 60)[k]) % 128)) Try.underlying29 ti3 rfl (by decide) (by decide) rfl ⟨rfl, by omega⟩ rfl hm11 (fun v73 w74 hS75 he76 => ?_)
        obtain ⟨A77, c78, rfl, hD79⟩ := hS75
        have u80 := Ext.up he76 hm11
        have e81 := Stp.ext hE10 he76
        have hm82 := Up.mb u80
        have h92 := Own.ext h14 he76 u80 (fun _ h => h)
        refine WL.appendR Try.underlying29 ti3 rfl (by decide) rfl rfl h92 (Sl.atl (SlD.sl hD79)) hm82 (by decide) (by first | omega | (simp; omega)) (fun A83 c84 w85 M86 hO87 hs88 u89 hsub90 hnew91 => ?_)
        have e93 := Stp.wr e81 hs88 (Wr.ofFr NoM wr19)
        have hm94 := Up.mb u89
        have hs095 : Ms M M86 := fun k h => hsub90 k (hsb13 k h)
        have fr97 := Ge.grow wr19 hnew91 (Stp.size e81)
        refine WL.assign rfl ?_
        refine WL.nil ?_
        refine CW.region ?_
        refine WL.add rfl rfl (by omega) ?_
        refine WL.move rfl ?_
        refine WL.nil ?_
        have hsv : (xs.take 60).take (k + 1) = (xs.take 60).take k ++ [(xs.take 60)[k]] := List.take_succ_eq_append_getElem hkl
        refine Loop.again _ _ ?_ ?_ ⟨k + 1, M86, A83, ((((xs.take 60).take k).map sclOf) ++ [2304 + (((xs.take 60)[k]) % 128)]).length, c84, rfl, rfl, (Up.trans hU9 (Up.trans u80 u89)), e93, hs095, hs095, Own.eq hO87 (by rw [hsv, List.map_append]; congr 1; exact congrArg (fun z => [z]) (by unfold sclOf; (repeat (first | rw [if_pos (by omega)] | rw [if_neg (by omega)])); try exact odd_get _ (by omega))), (Own.ms hO87), fr97, by omega⟩
        · omega
        · exact .cons (t := 3) rfl (.cons (t := 10) rfl (.cons (t := 11) rfl (.cons (t := 12) rfl (.nil _))))
      · refine CW.seq ?_
        refine CW.region ?_
        refine WL.move rfl ?_
        refine WL.lss rfl rfl ?_
        refine WL.assign rfl ?_
        refine WL.nil ?_
        refine CW.condP rfl (fun hc98 => ?_) (fun hc98 => ?_)
        · refine CW.region ?_
          refine WL.move rfl ?_
          refine WL.move rfl ?_
          refine WL.convert (by rw [Try.underlying5]; rfl) Try.underlying3 rfl (wrapI64 (by omega)) ?_
          refine WL.rem rfl rfl (by omega) (by omega) ?_
          refine WL.add rfl rfl (by omega) ?_
          refine WL.bslice1 (R := IntR) (y' := 2432 + (((xs.take 60)[k]) % 128)) Try.underlying29 ti3 rfl (by decide) (by decide) rfl ⟨rfl, by omega⟩ rfl hm11 (fun v99 w100 hS101 he102 => ?_)
          obtain ⟨A103, c104, rfl, hD105⟩ := hS101
          have u106 := Ext.up he102 hm11
          have e107 := Stp.ext hE10 he102
          have hm108 := Up.mb u106
          have h118 := Own.ext h14 he102 u106 (fun _ h => h)
          refine WL.appendR Try.underlying29 ti3 rfl (by decide) rfl rfl h118 (Sl.atl (SlD.sl hD105)) hm108 (by decide) (by first | omega | (simp; omega)) (fun A109 c110 w111 M112 hO113 hs114 u115 hsub116 hnew117 => ?_)
          have e119 := Stp.wr e107 hs114 (Wr.ofFr NoM wr19)
          have hm120 := Up.mb u115
          have hs0121 : Ms M M112 := fun k h => hsub116 k (hsb13 k h)
          have fr123 := Ge.grow wr19 hnew117 (Stp.size e107)
          refine WL.assign rfl ?_
          refine WL.nil ?_
          refine CW.region ?_
          refine WL.add rfl rfl (by omega) ?_
          refine WL.move rfl ?_
          refine WL.nil ?_
          have hsv : (xs.take 60).take (k + 1) = (xs.take 60).take k ++ [(xs.take 60)[k]] := List.take_succ_eq_append_getElem hkl
          refine Loop.again _ _ ?_ ?_ ⟨k + 1, M112, A109, ((((xs.take 60).take k).map sclOf) ++ [2432 + (((xs.take 60)[k]) % 128)]).length, c110, rfl, rfl, (Up.trans hU9 (Up.trans u106 u115)), e119, hs0121, hs0121, Own.eq hO113 (by rw [hsv, List.map_append]; congr 1; exact congrArg (fun z => [z]) (by unfold sclOf; (repeat (first | rw [if_pos (by omega)] | rw [if_neg (by omega)])); try exact odd_get _ (by omega))), (Own.ms hO113), fr123, by omega⟩
          · omega
          · exact .cons (t := 3) rfl (.cons (t := 10) rfl (.cons (t := 11) rfl (.cons (t := 12) rfl (.nil _))))
        · refine CW.region ?_
          refine WL.move rfl ?_
          refine WL.move rfl ?_
          refine WL.rem rfl rfl (by omega) (by omega) ?_
          refine WL.convert (by rw [Try.underlying5]; rfl) Try.underlying3 rfl (wrapI64 (by omega)) ?_
          refine WL.mul rfl rfl (by omega) ?_
          refine WL.add rfl rfl (by omega) ?_
          refine WL.add rfl rfl (by omega) ?_
          refine WL.bslice1 (R := IntR) (y' := (2304 + (128 * (((xs.take 60)[k]) % 9))) + 21) Try.underlying29 ti3 rfl (by decide) (by decide) rfl ⟨rfl, by omega⟩ rfl hm11 (fun v124 w125 hS126 he127 => ?_)
          obtain ⟨A128, c129, rfl, hD130⟩ := hS126
          have u131 := Ext.up he127 hm11
          have e132 := Stp.ext hE10 he127
          have hm133 := Up.mb u131
          have h143 := Own.ext h14 he127 u131 (fun _ h => h)
          refine WL.appendR Try.underlying29 ti3 rfl (by decide) rfl rfl h143 (Sl.atl (SlD.sl hD130)) hm133 (by decide) (by first | omega | (simp; omega)) (fun A134 c135 w136 M137 hO138 hs139 u140 hsub141 hnew142 => ?_)
          have e144 := Stp.wr e132 hs139 (Wr.ofFr NoM wr19)
          have hm145 := Up.mb u140
          have hs0146 : Ms M M137 := fun k h => hsub141 k (hsb13 k h)
          have fr148 := Ge.grow wr19 hnew142 (Stp.size e132)
          refine WL.assign rfl ?_
          refine WL.nil ?_
          refine CW.region ?_
          refine WL.add rfl rfl (by omega) ?_
          refine WL.move rfl ?_
          refine WL.nil ?_
          have hsv : (xs.take 60).take (k + 1) = (xs.take 60).take k ++ [(xs.take 60)[k]] := List.take_succ_eq_append_getElem hkl
          refine Loop.again _ _ ?_ ?_ ⟨k + 1, M137, A134, ((((xs.take 60).take k).map sclOf) ++ [(2304 + (128 * (((xs.take 60)[k]) % 9))) + 21]).length, c135, rfl, rfl, (Up.trans hU9 (Up.trans u131 u140)), e144, hs0146, hs0146, Own.eq hO138 (by rw [hsv, List.map_append]; congr 1; exact congrArg (fun z => [z]) (by unfold sclOf; (repeat (first | rw [if_pos (by omega)] | rw [if_neg (by omega)])); try exact odd_get _ (by omega))), (Own.ms hO138), fr148, by omega⟩
          · omega
          · exact .cons (t := 3) rfl (.cons (t := 10) rfl (.cons (t := 11) rfl (.cons (t := 12) rfl (.nil _))))
  · have hke : k = (xs.take 60).length := by omega
    refine CW.exit ?_
    refine CW.seq ?_
    refine CW.region ?_
    refine WL.move rfl ?_
    refine WL.assign rfl ?_
    refine WL.nil ?_
    refine CW.ret ?_
    refine Ret.one rfl rfl ?_
    exact ⟨_, ⟨Own.eq h14 (by rw [hke, List.take_length]; rfl), wr19, hU9, hsb13, hE10⟩⟩

theorem bytes_spec (w : World) (M : MS) (hm : MB w M) {Ap1 : Option Addr} {cp1 : Nat} {xs : List Int} (h1 : SlD ByteR 1 w M Ap1 cp1 xs) :
    Fc Try.prog 54 #[.slice Ap1 xs.length cp1] w fun v w' => ∃ M', NewR IntR 1 3 w M w' M' v (bytesP xs) := by
  have e0 := Stp.refl w (NoM : MS)
  have hs00 : Ms M M := fun _ h => h
  have hlim := h1.lim
  have htl : (xs.take 60).length ≤ 60 := by simp; omega
  refine Fc.enter (n := 45) [(0, .slice Ap1 xs.length cp1)] Try.func54 rfl rfl (Nat.le_of_ble_eq_true rfl) (.cons rfl (.nil _)) ?_
  refine CW.seq ?_
  refine CW.region ?_
  refine WL.assign rfl ?_
  refine WL.nil ?_
  refine CW.seq ?_
  refine CW.region ?_
  refine WL.assign rfl ?_
  refine WL.nil ?_
  refine CW.seq ?_
  refine CW.seq ?_
  refine CW.region ?_
  refine WL.move rfl ?_
  refine WL.move rfl ?_
  refine WL.len Try.underlying44 rfl ?_
  refine WL.imin rfl rfl ?_
  obtain ⟨A1, c2, hRn3, hD4, hl5⟩ := SlD.cutH h1 (i := min (xs.length : Int) 60) (by (first | omega | (show _ < 10; omega) | (show _ < 9; omega))) (by (first | omega | (show _ < 10; omega) | (show _ < 9; omega)))
  have hy6 : (xs.take (min (xs.length : Int) 60).toNat) = xs.take 60 := by exact take_min xs 60
  rw [hy6] at hD4 hl5
  simp only [hy6] at hRn3
  refine WL.rn (hRn3 es44 rfl rfl) ?_
  refine WL.len Try.underlying44 rfl ?_
  refine WL.move rfl ?_
  refine WL.nil ?_
  refine CW.block ?_
  have hO7 : Own IntR 1 3 w M 0 (.slice none 0 0) [] := Own.nil
  refine CW.loop (fun m σ wr0 => ∃ k : Nat, ∃ Mr8 : MS, ∃ A15 : Option Addr, ∃ n16 : Nat, ∃ c17 : Nat, m = (xs.take 60).length - k ∧ σ = [(3, .slice A15 n16 c17), (10, .slice A1 ((xs.take 60).length) c2), (11, .int .i64 ((xs.take 60).length : Int)), (12, .int .i64 (k : Int))] ∧ (Up w M wr0 Mr8) ∧ (Stp w wr0 NoM) ∧ (Ms M Mr8) ∧ (Ms M Mr8) ∧ (Own IntR 1 3 wr0 Mr8 0 (.slice A15 n16 c17) (((xs.take 60).take k).flatMap bytOf)) ∧ (Ms (ob (.slice A15 n16 c17)) Mr8) ∧ (∀ q_, (ob (.slice A15 n16 c17)) q_ → w.heap.size ≤ q_) ∧ (k ≤ (xs.take 60).length)) _ _ (.cons (t := 3) rfl (.cons (t := 10) rfl (.cons (t := 11) rfl (.cons (t := 12) rfl (.nil _))))) ⟨0, M, none, 0, 0, rfl, rfl, Up.refl hm, e0, fun _ h => h, hs00, hO7, (Ms.nil M), (Fr.nil w.heap.size), by omega⟩ ?_
  rintro m _ wr0 ⟨k, Mr8, A15, n16, c17, rfl, rfl, hU9, hE10, hsp12, hsb13, h14, mem18, wr19, hk⟩
  have hm11 := Up.mb hU9
  obtain rfl := Own.n h14
  have hlen20 := Own.len h14
  have hol := byt_len ((xs.take 60).take k)
  have hol2 : ((xs.take 60).take k).length ≤ 60 := by rw [List.length_take]; omega
  refine CW.seq ?_
  refine CW.region ?_
  refine WL.lss rfl rfl ?_
  refine WL.nil ?_
  refine CW.seq ?_
  refine CW.condP rfl (fun hc21 => ?_) (fun hc21 => ?_)
  · have hkl : k < (xs.take 60).length := by omega
    refine CW.skip ?_
    refine CW.seq ?_
    refine CW.block ?_
    refine CW.seq ?_
    refine CW.region ?_
    have hlt22 : k < (xs.take 60).length := by (first | omega | (show _ < 10; omega) | (show _ < 9; omega))
    obtain ⟨ad23, cs24, hA25, hs26, hat27, hR28⟩ := SlD.get (hD4.up hU9) (List.getElem?_eq_getElem hlt22)
    rw [show _ = _ from hR28.1] at hat27
    have hhR28 := hR28.2
    refine WL.idx es44 rfl rfl hA25 (by omega) (by omega) ?_
    refine WL.load sc5 rfl (hat27.cell 0 _ rfl) ?_
    refine WL.assign rfl ?_
    refine WL.nil ?_
    refine CW.block ?_
    refine CW.seq ?_
    refine CW.region ?_
    refine WL.move rfl ?_
    refine WL.lss rfl rfl ?_
    refine WL.assign rfl ?_
    refine WL.nil ?_
    refine CW.condP rfl (fun hc29 => ?_) (fun hc29 => ?_)
    · refine CW.region ?_
      refine WL.move rfl ?_
      refine WL.call Try.func45 rfl rfl (.nil) (codes_spec _ _ hm11) (fun _ w33 hr34 => ?_)
      obtain ⟨⟨A30, c31, rfl, hD32⟩, he35⟩ := hr34
      have u36 := Ext.up he35 hm11
      have e37 := Stp.ext hE10 he35
      have hm38 := Up.mb u36
      refine WL.move rfl ?_
      refine WL.rem rfl rfl (by omega) (by omega) ?_
      have hlt39 : (((xs.take 60)[k]) % 9).toNat < codesL.length := by (first | omega | (show _ < 10; omega) | (show _ < 9; omega))
      obtain ⟨ad40, cs41, hA42, hs43, hat44, hR45⟩ := SlD.get hD32 (List.getElem?_eq_getElem hlt39)
      rw [show _ = _ from hR45.1] at hat44
      have hhR45 := hR45.2; simp only [I64] at hhR45
      refine WL.idx es29 rfl rfl hA42 (by omega) (by omega) ?_
      refine WL.load sc3 rfl (hat44.cell 0 _ rfl) ?_
      refine WL.bslice Try.underlying29 ti3 rfl (by decide) (by decide) (.cons rfl (.cons rfl (.nil))) rfl (by simp [Value.cells]) (fun g46 w47 hg48 hb49 he50 => ?_)
      have hD51 : SlD IntR 1 w47 Mr8 (some ⟨g46, 0, none⟩) 2 ([239, codesL[(((xs.take 60)[k]) % 9).toNat]] : List Int) := Bk.ints (xs := [239, codesL[(((xs.take 60)[k]) % 9).toNat]]) hb49 (by intro x_ hx_; simp only [List.mem_cons, List.not_mem_nil, or_false] at hx_; rcases hx_ with rfl | rfl <;> (simp only [I64]; omega)) (MB.fresh hm38 hg48) (Nat.le_of_ble_eq_true rfl)
      have u52 := Ext.up he50 hm38
      have e53 := Stp.ext e37 he50
      have hm54 := Up.mb u52
      have h64 := Own.ext h14 he35 u36 (fun _ h => h)
      have h65 := Own.ext h64 he50 u52 (fun _ h => h)
      refine WL.appendR Try.underlying29 ti3 rfl (by decide) rfl rfl h65 (Sl.atl (SlD.sl hD51)) hm54 (by decide) (by simp only [List.length_append, List.length_cons, List.length_nil]; omega) (fun A55 c56 w57 M58 hO59 hs60 u61 hsub62 hnew63 => ?_)
      have e66 := Stp.wr e53 hs60 (Wr.ofFr NoM wr19)
      have hm67 := Up.mb u61
      have hs068 : Ms M M58 := fun k h => hsub62 k (hsb13 k h)
      have fr70 := Ge.grow wr19 hnew63 (Stp.size e53)
      refine WL.assign rfl ?_
      refine WL.nil ?_
      refine CW.region ?_
      refine WL.add rfl rfl (by omega) ?_
      refine WL.move rfl ?_
      refine WL.nil ?_
      have hsv : (xs.take 60).take (k + 1) = (xs.take 60).take k ++ [(xs.take 60)[k]] := List.take_succ_eq_append_getElem hkl
      refine Loop.again _ _ ?_ ?_ ⟨k + 1, M58, A55, ((((xs.take 60).take k).flatMap bytOf) ++ ([239, codesL[(((xs.take 60)[k]) % 9).toNat]] : List Int)).length, c56, rfl, rfl, (Up.trans hU9 (Up.trans u36 (Up.trans u52 u61))), e66, hs068, hs068, Own.eq hO59 (by rw [hsv, List.flatMap_append, List.flatMap_singleton]; refine congrArg (HAppend.hAppend _) ?_; unfold bytOf; (repeat (first | rw [if_pos (by omega)] | rw [if_neg (by omega)])); try (first | rfl | exact congrArg (fun z => [z]) (by_get _ (by omega)) | exact congrArg (fun z => [239, z]) (codes_get _).symm)), (Own.ms hO59), fr70, by omega⟩
      · omega
      · exact .cons (t := 3) rfl (.cons (t := 10) rfl (.cons (t := 11) rfl (.cons (t := 12) rfl (.nil _))))
    · refine CW.seq ?_
      refine CW.region ?_
      refine WL.move rfl ?_
      refine WL.lss rfl rfl ?_
      refine WL.assign rfl ?_
      refine WL.nil ?_
      refine CW.condP rfl (fun hc71 => ?_) (fun hc71 => ?_)
      · refine CW.region ?_
        refine WL.move rfl ?_
        refine WL.bslice Try.underlying29 ti3 rfl (by decide) (by decide) (.cons rfl (.cons rfl (.cons rfl (.cons rfl (.cons rfl (.cons rfl (.cons rfl (.cons rfl (.cons rfl (.cons rfl (.nil))))))))))) rfl (by simp [Value.cells]) (fun g72 w73 hg74 hb75 he76 => ?_)
        have hD77 : SlD IntR 1 w73 Mr8 (some ⟨g72, 0, none⟩) 10 ([232, 233, 234, 217, 240, 184, 191, 161, 239, 66] : List Int) := Bk.ints (xs := [232, 233, 234, 217, 240, 184, 191, 161, 239, 66]) hb75 (by decide) (MB.fresh hm11 hg74) (Nat.le_of_ble_eq_true rfl)
        have u78 := Ext.up he76 hm11
        have e79 := Stp.ext hE10 he76
        have hm80 := Up.mb u78
        change SlD IntR 1 _ _ _ _ byL at hD77
        refine WL.move rfl ?_
        refine WL.rem rfl rfl (by omega) (by omega) ?_
        have hlt81 : (((xs.take 60)[k]) % 10).toNat < byL.length := by (first | omega | (show _ < 10; omega) | (show _ < 9; omega))
        obtain ⟨ad82, cs83, hA84, hs85, hat86, hR87⟩ := SlD.get hD77 (List.getElem?_eq_getElem hlt81)
        rw [show _ = _ from hR87.1] at hat86
        have hhR87 := hR87.2; simp only [I64] at hhR87
        refine WL.idx es29 rfl rfl hA84 (by omega) (by omega) ?_
        refine WL.load sc3 rfl (hat86.cell 0 _ rfl) ?_
        refine WL.bslice1 (R := IntR) (y' := byL[(((xs.take 60)[k]) % 10).toNat]) Try.underlying29 ti3 rfl (by decide) (by decide) rfl ⟨rfl, by omega⟩ rfl hm80 (fun v88 w89 hS90 he91 => ?_)
        obtain ⟨A92, c93, rfl, hD94⟩ := hS90
        have u95 := Ext.up he91 hm80
        have e96 := Stp.ext e79 he91
        have hm97 := Up.mb u95
        have h107 := Own.ext h14 he76 u78 (fun _ h => h)
        have h108 := Own.ext h107 he91 u95 (fun _ h => h)
        refine WL.appendR Try.underlying29 ti3 rfl (by decide) rfl rfl h108 (Sl.atl (SlD.sl hD94)) hm97 (by decide) (by simp only [List.length_append, List.length_cons, List.length_nil]; omega) (fun A98 c99 w100 M101 hO102 hs103 u104 hsub105 hnew106 => ?_)
        have e109 := Stp.wr e96 hs103 (Wr.ofFr NoM wr19)
        have hm110 := Up.mb u104
        have hs0111 : Ms M M101 := fun k h => hsub105 k (hsb13 k h)
        have fr113 := Ge.grow wr19 hnew106 (Stp.size e96)
        refine WL.assign rfl ?_
        refine WL.nil ?_
        refine CW.region ?_
        refine WL.add rfl rfl (by omega) ?_
        refine WL.move rfl ?_
        refine WL.nil ?_
        have hsv : (xs.take 60).take (k + 1) = (xs.take 60).take k ++ [(xs.take 60)[k]] := List.take_succ_eq_append_getElem hkl
        refine Loop.again _ _ ?_ ?_ ⟨k + 1, M101, A98, ((((xs.take 60).take k).flatMap bytOf) ++ [byL[(((xs.take 60)[k]) % 10).toNat]]).length, c99, rfl, rfl, (Up.trans hU9 (Up.trans u78 (Up.trans u95 u104))), e109, hs0111, hs0111, Own.eq hO102 (by rw [hsv, List.flatMap_append, List.flatMap_singleton]; refine congrArg (HAppend.hAppend _) ?_; unfold bytOf; (repeat (first | rw [if_pos (by omega)] | rw [if_neg (by omega)])); try (first | rfl | exact congrArg (fun z => [z]) (by_get _ (by omega)) | exact congrArg (fun z => [239, z]) (codes_get _).symm)), (Own.ms hO102), fr113, by omega⟩
        · omega
        · exact .cons (t := 3) rfl (.cons (t := 10) rfl (.cons (t := 11) rfl (.cons (t := 12) rfl (.nil _))))
      · refine CW.region ?_
        refine WL.move rfl ?_
        refine WL.move rfl ?_
        refine WL.convert (by rw [Try.underlying5]; rfl) Try.underlying3 rfl (wrapI64 (by omega)) ?_
        refine WL.bslice1 (R := IntR) (y' := (xs.take 60)[k]) Try.underlying29 ti3 rfl (by decide) (by decide) rfl ⟨rfl, by omega⟩ rfl hm11 (fun v114 w115 hS116 he117 => ?_)
        obtain ⟨A118, c119, rfl, hD120⟩ := hS116
        have u121 := Ext.up he117 hm11
        have e122 := Stp.ext hE10 he117
        have hm123 := Up.mb u121
        have h133 := Own.ext h14 he117 u121 (fun _ h => h)
        refine WL.appendR Try.underlying29 ti3 rfl (by decide) rfl rfl h133 (Sl.atl (SlD.sl hD120)) hm123 (by decide) (by simp only [List.length_append, List.length_cons, List.length_nil]; omega) (fun A124 c125 w126 M127 hO128 hs129 u130 hsub131 hnew132 => ?_)
        have e134 := Stp.wr e122 hs129 (Wr.ofFr NoM wr19)
        have hm135 := Up.mb u130
        have hs0136 : Ms M M127 := fun k h => hsub131 k (hsb13 k h)
        have fr138 := Ge.grow wr19 hnew132 (Stp.size e122)
        refine WL.assign rfl ?_
        refine WL.nil ?_
        refine CW.region ?_
        refine WL.add rfl rfl (by omega) ?_
        refine WL.move rfl ?_
        refine WL.nil ?_
        have hsv : (xs.take 60).take (k + 1) = (xs.take 60).take k ++ [(xs.take 60)[k]] := List.take_succ_eq_append_getElem hkl
        refine Loop.again _ _ ?_ ?_ ⟨k + 1, M127, A124, ((((xs.take 60).take k).flatMap bytOf) ++ [(xs.take 60)[k]]).length, c125, rfl, rfl, (Up.trans hU9 (Up.trans u121 u130)), e134, hs0136, hs0136, Own.eq hO128 (by rw [hsv, List.flatMap_append, List.flatMap_singleton]; refine congrArg (HAppend.hAppend _) ?_; unfold bytOf; (repeat (first | rw [if_pos (by omega)] | rw [if_neg (by omega)])); try (first | rfl | exact congrArg (fun z => [z]) (by_get _ (by omega)) | exact congrArg (fun z => [239, z]) (codes_get _).symm)), (Own.ms hO128), fr138, by omega⟩
        · omega
        · exact .cons (t := 3) rfl (.cons (t := 10) rfl (.cons (t := 11) rfl (.cons (t := 12) rfl (.nil _))))
  · have hke : k = (xs.take 60).length := by omega
    refine CW.exit ?_
    refine CW.seq ?_
    refine CW.region ?_
    refine WL.move rfl ?_
    refine WL.assign rfl ?_
    refine WL.nil ?_
    refine CW.ret ?_
    refine Ret.one rfl rfl ?_
    exact ⟨_, ⟨Own.eq h14 (by rw [hke, List.take_length]; rfl), wr19, hU9, hsb13, hE10⟩⟩
end Go.Proofs.Ytgbajkdomcmblaa
