/- The laws MachineDecode, MachineEncode, MachineApart answer true: walks. -/
import Derived.Test.YtgbajkdomcmblaaMachW
namespace Go.Proofs.Ytgbajkdomcmblaa
open Go Go.RowKit Vc
set_option linter.unusedVariables false
set_option linter.unusedSimpArgs false
private theorem mixed : Try.prog.follows .mixedOrders = true := by kernel_rfl
private theorem fo58_0 : fieldOff Try.prog 58 0 = some 0 := by kernel_rfl
private theorem fo58_2 : fieldOff Try.prog 58 2 = some 2 := by kernel_rfl
private theorem fo58_3 : fieldOff Try.prog 58 3 = some 3 := by kernel_rfl
private theorem es55 : elemSize Try.prog 55 = some 4 := by kernel_rfl
private theorem sc3 : scalar Try.prog 3 = true := by kernel_rfl
private theorem sc29 : scalar Try.prog 29 = true := by kernel_rfl
private theorem sc46 : scalar Try.prog 46 = true := by kernel_rfl
private theorem ag58 : aggSize Try.prog 58 = some 4 := by kernel_rfl
private theorem ti3 : tinfo Try.prog 3 = some (some (.int .i64 0), 1, 8) := by kernel_rfl
private theorem ti58 : tinfo Try.prog 58 = some (some (.agg #[.int .i64 0, .int .i64 0, .slice none 0 0, .int .i64 0]), 4, 48) := by kernel_rfl
theorem decode_walk (w : World) (M : MS) (hm : MB w M) {Ap1 : Option Addr} {cp1 : Nat} {rows : List PRow} (h1 : SlD RowR 5 w M Ap1 cp1 rows) {Ap2 : Option Addr} {cp2 : Nat} {l : List Int} (h2 : SlD ByteR 1 w M Ap2 cp2 l) :
    Fc Try.prog 7 #[.slice Ap1 rows.length cp1, .slice Ap2 l.length cp2] w fun v w' => v = .bool true ∧ Ext w w' := by
  have e0 := Stp.refl w (NoM : MS)
  have hs00 : Ms M M := fun _ h => h
  have hlim := h1.lim
  have hlim2 := h2.lim
  have hfl := few_len l
  refine Fc.enter (n := 42) [(0, .slice Ap1 rows.length cp1), (1, .slice Ap2 l.length cp2)] Try.func7 rfl rfl (Nat.le_of_ble_eq_true rfl) (.cons rfl (.cons rfl (.nil _))) ?_
  refine CW.seq ?_
  refine CW.region ?_
  refine WL.assign rfl ?_
  refine WL.nil ?_
  refine CW.seq ?_
  refine CW.seq ?_
  refine CW.region ?_
  refine WL.call Try.func24 rfl rfl (.nil) (awake_spec _ _ hm) (fun _ w1 hr2 => ?_)
  obtain ⟨rfl, he3⟩ := hr2
  have u4 := Ext.up he3 hm
  have e5 := Stp.ext e0 he3
  have hm6 := Up.mb u4
  refine WL.not_ rfl ?_
  refine WL.nil ?_
  refine CW.condF rfl ?_
  refine CW.skip ?_
  refine CW.seq ?_
  refine CW.region ?_
  refine WL.move rfl ?_
  refine WL.call Try.func26 rfl rfl (.cons rfl (.nil)) (Table_spec _ _ hm6 (h1.up u4)) (fun _ w10 hr11 => ?_)
  obtain ⟨⟨A7, c8, rfl, hD9⟩, he12⟩ := hr11
  have u13 := Ext.up he12 hm6
  have e14 := Stp.ext e5 he12
  have hm15 := Up.mb u13
  change SlD RuleR 2 _ _ _ _ (rowsP rows) at hD9
  refine WL.assign rfl ?_
  refine WL.nil ?_
  refine CW.seq ?_
  refine CW.region ?_
  refine WL.move rfl ?_
  refine WL.call Try.func25 rfl rfl (.cons rfl (.nil)) (tableOf_spec _ _ hm15 hD9 (rows_good rows) (rows_closed rows)) (fun _ w16 hr17 => ?_)
  obtain ⟨⟨gt, rfl, hT⟩, he18⟩ := hr17
  have u19 := Ext.up he18 hm15
  have e20 := Stp.ext e14 he18
  have hm21 := Up.mb u19
  refine WL.move rfl ?_
  refine WL.extract rfl rfl ?_
  refine WL.extract rfl rfl ?_
  refine WL.assign rfl ?_
  refine WL.assign rfl ?_
  refine WL.nil ?_
  refine CW.seq ?_
  refine CW.seq ?_
  refine CW.region ?_
  refine WL.move rfl ?_
  refine WL.rn (Rn.pnil Try.underlying45 rfl) ?_
  refine WL.move rfl ?_
  refine WL.gtake rfl rfl rfl ?_
  refine WL.move rfl ?_
  refine WL.gtake rfl rfl rfl ?_
  refine WL.neq rfl rfl ?_
  refine WL.pickF rfl rfl ?_
  refine WL.nil ?_
  have hev22 : ¬ ((0 : Int) ≠ 0) := by decide
  refine CW.condP rfl (fun hn => absurd hn hev22) (fun _ => ?_)
  refine CW.skip ?_
  refine CW.seq ?_
  refine CW.region ?_
  refine WL.move rfl ?_
  refine WL.call Try.func27 rfl rfl (.cons rfl (.nil)) (decode_spec _ _ hm21 hT) (fun _ w23 hr24 => ?_)
  obtain ⟨gd25, rfl, M26, S27, hD28, hnw29, hu30, hms31, he32⟩ := hr24
  have e33 := Stp.ext e20 he32
  have hm34 := Up.mb hu30
  have hs035 : Ms M M26 := fun k h => hms31 k (hs00 k h)
  have fr36 := Ge.le hnw29 (Stp.size e20)
  refine WL.assign rfl ?_
  refine WL.nil ?_
  refine CW.seq ?_
  refine CW.seq ?_
  refine CW.region ?_
  refine WL.move rfl ?_
  refine WL.rn (Rn.inil Try.underlying52 rfl) ?_
  refine WL.nil ?_
  refine CW.condF rfl ?_
  refine CW.skip ?_
  refine CW.seq ?_
  refine CW.region ?_
  refine WL.move rfl ?_
  refine WL.move rfl ?_
  refine WL.call Try.func28 rfl rfl (.cons rfl (.nil)) (few_spec _ _ hm34 (h2.up (Up.trans u4 (Up.trans u13 (Up.trans u19 hu30))))) (fun _ w40 hr41 => ?_)
  obtain ⟨⟨A37, c38, rfl, hD39⟩, he42⟩ := hr41
  have u43 := Ext.up he42 hm34
  have e44 := Stp.ext e33 he42
  have hm45 := Up.mb u43
  have mem47 : Ms S27 M26 := (DecO.ms hD28)
  have h48 := DecO.step hD28 he42 (fun _ _ h => h) u43 mem47
  have hF46 := all_spec (dec_mach (rows_good rows) gd25) _ _ hm45 hD39 h48 (match_ok0 (by omega) (by omega)) (by omega)
  rw [all_match (rows_good rows).right] at hF46
  refine WL.call Try.func34 rfl rfl (.cons rfl (.cons rfl (.nil))) (hF46) (fun _ w49 hr50 => ?_)
  obtain ⟨M51, S52, hP53, hM54⟩ := hr50
  have hP57 : PutR w40 M26 S27 w49 M51 S52 _ (batchP (rowsP rows) (fewP l) 0) := hP53
  obtain ⟨A55, c56, rfl⟩ := Own.form hP57.own
  have hM58 : DecO gd25 (rowsP rows) w49 M51 S52 (([] : List Int), (0 : Int) + ((fewP l).length : Int)) := hM54
  have e59 := Stp.wr e44 (PutR.stp hP57) (Wr.ofFr NoM fr36)
  have hm60 := Up.mb (PutR.up hP57)
  have hs061 : Ms M M51 := fun k h => (PutR.ms hP57) k (hs035 k h)
  have fr63 := Ge.grow fr36 (PutR.wr hP57) (Stp.size e44)
  have ge64 := Ge.grow hnw29 (PutR.wr hP57) (Stp.size (Up.stp (Up.trans hu30 u43)))
  have fr65 := Ge.le (PutR.new hP57) (Stp.size e44)
  refine WL.move rfl ?_
  refine WL.move rfl ?_
  refine WL.call Try.func28 rfl rfl (.cons rfl (.nil)) (few_spec _ _ hm60 (h2.up (Up.trans u4 (Up.trans u13 (Up.trans u19 (Up.trans hu30 (Up.trans u43 (PutR.up hP57)))))))) (fun _ w69 hr70 => ?_)
  obtain ⟨⟨A66, c67, rfl, hD68⟩, he71⟩ := hr70
  have u72 := Ext.up he71 hm60
  have e73 := Stp.ext e59 he71
  have hm74 := Up.mb u72
  refine WL.call Try.func35 rfl rfl (.cons rfl (.cons rfl (.nil))) (lawAll_spec _ _ hm74 (hD9.up (Up.trans u19 (Up.trans hu30 (Up.trans u43 (Up.trans (PutR.up hP57) u72))))) hD68 (rows_good rows) (by omega)) (fun _ w75 hr76 => ?_)
  obtain ⟨M77, hP78⟩ := hr76
  obtain ⟨A79, c80, rfl⟩ := Own.form hP78.own
  have e81 := Stp.ext e73 (NewR.ext hP78)
  have hm82 := Up.mb (NewR.up hP78)
  have hs083 : Ms M M77 := fun k h => (NewR.ms hP78) k (hs061 k h)
  have mem85 : Ms S52 M51 := (DecO.ms hM58)
  have dj84 := Dj.fresh (T := S52) (NewR.new hP78) mem85 hm74
  have mem87 : Ms (ob (.slice A55 (batchP (rowsP rows) (fewP l) 0).length c56)) M51 := (Own.ms (PutR.own hP57))
  have dj86 := Dj.fresh (T := (ob (.slice A55 (batchP (rowsP rows) (fewP l) 0).length c56))) (NewR.new hP78) mem87 hm74
  have fr88 := Ge.le (NewR.new hP78) (Stp.size e73)
  have h89 := Own.ext (PutR.own hP57) he71 u72 (fun _ h => h)
  have h90 := Own.ext h89 (NewR.ext hP78) (NewR.up hP78) (NewR.ms hP78)
  refine WL.call Try.func33 rfl rfl (.cons rfl (.cons rfl (.nil))) (Same_spec _ _ (MB.none _) (Own.read00 h90 hm82) (Own.read00 (NewR.own hP78) hm82)) (fun _ w91 hr92 => ?_)
  obtain ⟨rfl, he93⟩ := hr92
  have u94 := Ext.up he93 hm82
  have e95 := Stp.ext e81 he93
  have hm96 := Up.mb u94
  refine WL.move rfl ?_
  have hev97 : ((batchP (rowsP rows) (fewP l) 0) = (batchP (rowsP rows) (fewP l) 0)) := rfl
  refine WL.gtake rfl rfl (decide_eq_true hev97) ?_
  refine WL.move rfl ?_
  refine WL.gtake rfl rfl (decide_eq_true hev97) ?_
  have h101 := DecO.step hM58 he71 (fun _ _ h => h) u72 mem85
  have mem102 : Ms S52 M77 := (fun k h => (NewR.ms hP78) k (mem85 k h))
  have h103 := DecO.step h101 (NewR.ext hP78) (fun _ _ h => h) (NewR.up hP78) mem102
  have h104 := DecO.step h103 he93 (fun _ _ h => h) u94 mem102
  obtain ⟨r98, hm99, hF100⟩ := dec_held h104 hm96
  refine WL.invoke rfl hm99 Try.func74 rfl rfl (.nil) (hF100) (fun _ w105 hr106 => ?_)
  obtain ⟨rfl, he107⟩ := hr106
  have u108 := Ext.up he107 hm96
  have e109 := Stp.ext e95 he107
  have hm110 := Up.mb u108
  refine WL.gtake rfl rfl (decide_eq_true hev97) ?_
  refine WL.eql rfl rfl ?_
  refine WL.pickT (congrArg (fun b => some (Value.bool b)) (decide_eq_true hev97)) rfl ?_
  refine WL.assign rfl ?_
  refine WL.nil ?_
  refine CW.ret ?_
  refine Ret.one rfl rfl ?_
  exact ⟨by simp, e109⟩

theorem encode_walk (w : World) (M : MS) (hm : MB w M) {Ap1 : Option Addr} {cp1 : Nat} {rows : List PRow} (h1 : SlD RowR 5 w M Ap1 cp1 rows) {Ap2 : Option Addr} {cp2 : Nat} {l : List Int} (h2 : SlD ByteR 1 w M Ap2 cp2 l) :
    Fc Try.prog 8 #[.slice Ap1 rows.length cp1, .slice Ap2 l.length cp2] w fun v w' => v = .bool true ∧ Ext w w' := by
  have e0 := Stp.refl w (NoM : MS)
  have hs00 : Ms M M := fun _ h => h
  have hlim := h1.lim
  have hlim2 := h2.lim
  have hfl := few_len l
  refine Fc.enter (n := 43) [(0, .slice Ap1 rows.length cp1), (1, .slice Ap2 l.length cp2)] Try.func8 rfl rfl (Nat.le_of_ble_eq_true rfl) (.cons rfl (.cons rfl (.nil _))) ?_
  refine CW.seq ?_
  refine CW.region ?_
  refine WL.assign rfl ?_
  refine WL.nil ?_
  refine CW.seq ?_
  refine CW.seq ?_
  refine CW.region ?_
  refine WL.call Try.func24 rfl rfl (.nil) (awake_spec _ _ hm) (fun _ w1 hr2 => ?_)
  obtain ⟨rfl, he3⟩ := hr2
  have u4 := Ext.up he3 hm
  have e5 := Stp.ext e0 he3
  have hm6 := Up.mb u4
  refine WL.not_ rfl ?_
  refine WL.nil ?_
  refine CW.condF rfl ?_
  refine CW.skip ?_
  refine CW.seq ?_
  refine CW.region ?_
  refine WL.move rfl ?_
  refine WL.call Try.func26 rfl rfl (.cons rfl (.nil)) (Table_spec _ _ hm6 (h1.up u4)) (fun _ w10 hr11 => ?_)
  obtain ⟨⟨A7, c8, rfl, hD9⟩, he12⟩ := hr11
  have u13 := Ext.up he12 hm6
  have e14 := Stp.ext e5 he12
  have hm15 := Up.mb u13
  change SlD RuleR 2 _ _ _ _ (rowsP rows) at hD9
  refine WL.assign rfl ?_
  refine WL.nil ?_
  refine CW.seq ?_
  refine CW.region ?_
  refine WL.move rfl ?_
  refine WL.call Try.func25 rfl rfl (.cons rfl (.nil)) (tableOf_spec _ _ hm15 hD9 (rows_good rows) (rows_closed rows)) (fun _ w16 hr17 => ?_)
  obtain ⟨⟨gt, rfl, hT⟩, he18⟩ := hr17
  have u19 := Ext.up he18 hm15
  have e20 := Stp.ext e14 he18
  have hm21 := Up.mb u19
  refine WL.move rfl ?_
  refine WL.extract rfl rfl ?_
  refine WL.extract rfl rfl ?_
  refine WL.assign rfl ?_
  refine WL.assign rfl ?_
  refine WL.nil ?_
  refine CW.seq ?_
  refine CW.seq ?_
  refine CW.region ?_
  refine WL.move rfl ?_
  refine WL.rn (Rn.pnil Try.underlying45 rfl) ?_
  refine WL.move rfl ?_
  refine WL.gtake rfl rfl rfl ?_
  refine WL.move rfl ?_
  refine WL.gtake rfl rfl rfl ?_
  refine WL.neq rfl rfl ?_
  refine WL.pickF rfl rfl ?_
  refine WL.nil ?_
  have hev22 : ¬ ((0 : Int) ≠ 0) := by decide
  refine CW.condP rfl (fun hn => absurd hn hev22) (fun _ => ?_)
  refine CW.skip ?_
  refine CW.seq ?_
  refine CW.region ?_
  refine WL.move rfl ?_
  refine WL.call Try.func29 rfl rfl (.cons rfl (.nil)) (encode_spec _ _ hm21 hT) (fun _ w23 hr24 => ?_)
  obtain ⟨ge25, rfl, M26, S27, hE28, hnw29, hu30, hms31, he32⟩ := hr24
  have e33 := Stp.ext e20 he32
  have hm34 := Up.mb hu30
  have hs035 : Ms M M26 := fun k h => hms31 k (hs00 k h)
  have fr36 := Ge.le hnw29 (Stp.size e20)
  refine WL.assign rfl ?_
  refine WL.nil ?_
  refine CW.seq ?_
  refine CW.seq ?_
  refine CW.region ?_
  refine WL.move rfl ?_
  refine WL.rn (Rn.pnil Try.underlying61 rfl) ?_
  refine WL.nil ?_
  refine CW.condF rfl ?_
  refine CW.skip ?_
  refine CW.seq ?_
  refine CW.region ?_
  refine WL.move rfl ?_
  refine WL.makeInterface Try.underlying61 rfl rfl ?_
  refine WL.move rfl ?_
  refine WL.call Try.func28 rfl rfl (.cons rfl (.nil)) (few_spec _ _ hm34 (h2.up (Up.trans u4 (Up.trans u13 (Up.trans u19 hu30))))) (fun _ w40 hr41 => ?_)
  obtain ⟨⟨A37, c38, rfl, hD39⟩, he42⟩ := hr41
  have u43 := Ext.up he42 hm34
  have e44 := Stp.ext e33 he42
  have hm45 := Up.mb u43
  have mem47 : Ms S27 M26 := (EncR.ms hE28)
  have h48 := EncR.step hE28 he42 (fun _ _ h => h) u43 mem47
  have hF46 := all_spec (enc_mach (rows_good rows) ge25) _ _ hm45 hD39 h48 (enc_ok0 (by omega) (by omega) (by simp)) (by omega)
  rw [all_enc (rows_good rows)] at hF46
  refine WL.call Try.func34 rfl rfl (.cons rfl (.cons rfl (.nil))) (hF46) (fun _ w49 hr50 => ?_)
  obtain ⟨M51, S52, hP53, hM54⟩ := hr50
  have hP57 : PutR w40 M26 S27 w49 M51 S52 _ ((joinP (rowsP rows) [] (batchP (turnP (rowsP rows)) (fewP l) 0)).1) := hP53
  obtain ⟨A55, c56, rfl⟩ := Own.form hP57.own
  have hM58 : EncO ge25 (rowsP rows) w49 M51 S52 (⟨[], (0 : Int) + ((fewP l).length : Int), (joinP (rowsP rows) [] (batchP (turnP (rowsP rows)) (fewP l) 0)).2⟩ : EncS) := hM54
  have e59 := Stp.wr e44 (PutR.stp hP57) (Wr.ofFr NoM fr36)
  have hm60 := Up.mb (PutR.up hP57)
  have hs061 : Ms M M51 := fun k h => (PutR.ms hP57) k (hs035 k h)
  have fr63 := Ge.grow fr36 (PutR.wr hP57) (Stp.size e44)
  have ge64 := Ge.grow hnw29 (PutR.wr hP57) (Stp.size (Up.stp (Up.trans hu30 u43)))
  have fr65 := Ge.le (PutR.new hP57) (Stp.size e44)
  refine WL.move rfl ?_
  refine WL.move rfl ?_
  refine WL.call Try.func28 rfl rfl (.cons rfl (.nil)) (few_spec _ _ hm60 (h2.up (Up.trans u4 (Up.trans u13 (Up.trans u19 (Up.trans hu30 (Up.trans u43 (PutR.up hP57)))))))) (fun _ w69 hr70 => ?_)
  obtain ⟨⟨A66, c67, rfl, hD68⟩, he71⟩ := hr70
  have u72 := Ext.up he71 hm60
  have e73 := Stp.ext e59 he71
  have hm74 := Up.mb u72
  refine WL.call Try.func36 rfl rfl (.cons rfl (.cons rfl (.nil))) (lawEncode_spec _ _ hm74 (hD9.up (Up.trans u19 (Up.trans hu30 (Up.trans u43 (Up.trans (PutR.up hP57) u72))))) hD68 (rows_good rows) (by omega)) (fun _ w75 hr76 => ?_)
  obtain ⟨M77, hP78⟩ := hr76
  obtain ⟨A79, c80, rfl⟩ := Own.form hP78.own
  have e81 := Stp.ext e73 (NewR.ext hP78)
  have hm82 := Up.mb (NewR.up hP78)
  have hs083 : Ms M M77 := fun k h => (NewR.ms hP78) k (hs061 k h)
  have mem85 : Ms S52 M51 := (EncR.ms hM58)
  have dj84 := Dj.fresh (T := S52) (NewR.new hP78) mem85 hm74
  have mem87 : Ms (ob (.slice A55 ((joinP (rowsP rows) [] (batchP (turnP (rowsP rows)) (fewP l) 0)).1).length c56)) M51 := (Own.ms (PutR.own hP57))
  have dj86 := Dj.fresh (T := (ob (.slice A55 ((joinP (rowsP rows) [] (batchP (turnP (rowsP rows)) (fewP l) 0)).1).length c56))) (NewR.new hP78) mem87 hm74
  have fr88 := Ge.le (NewR.new hP78) (Stp.size e73)
  have h89 := Own.ext (PutR.own hP57) he71 u72 (fun _ h => h)
  have h90 := Own.ext h89 (NewR.ext hP78) (NewR.up hP78) (NewR.ms hP78)
  refine WL.call Try.func33 rfl rfl (.cons rfl (.cons rfl (.nil))) (Same_spec _ _ (MB.none _) (Own.read00 h90 hm82) (Own.read00 (NewR.own hP78) hm82)) (fun _ w91 hr92 => ?_)
  obtain ⟨rfl, he93⟩ := hr92
  have u94 := Ext.up he93 hm82
  have e95 := Stp.ext e81 he93
  have hm96 := Up.mb u94
  refine WL.move rfl ?_
  have hev97 : ((joinP (rowsP rows) [] (batchP (turnP (rowsP rows)) (fewP l) 0)).1 = (joinP (rowsP rows) [] (batchP (turnP (rowsP rows)) (fewP l) 0)).1) := rfl
  refine WL.gtake rfl rfl (decide_eq_true hev97) ?_
  refine WL.move rfl ?_
  refine WL.gtake rfl rfl (decide_eq_true hev97) ?_
  have h98 := EncR.step hM58 he71 (fun _ _ h => h) u72 mem85
  have mem99 : Ms S52 M77 := (fun k h => (NewR.ms hP78) k (mem85 k h))
  have h100 := EncR.step h98 (NewR.ext hP78) (fun _ _ h => h) (NewR.up hP78) mem99
  have h101 := EncR.step h100 he93 (fun _ _ h => h) u94 mem99
  refine WL.call Try.func32 rfl rfl (.cons rfl (.nil)) (encHeld_spec _ _ hm96 h101) (fun _ w102 hr103 => ?_)
  obtain ⟨rfl, he104⟩ := hr103
  have u105 := Ext.up he104 hm96
  have e106 := Stp.ext e95 he104
  have hm107 := Up.mb u105
  refine WL.gtake rfl rfl (decide_eq_true hev97) ?_
  refine WL.eql rfl rfl ?_
  refine WL.pickT (congrArg (fun b => some (Value.bool b)) (decide_eq_true hev97)) rfl ?_
  refine WL.assign rfl ?_
  refine WL.nil ?_
  refine CW.ret ?_
  refine Ret.one rfl rfl ?_
  exact ⟨by simp, e106⟩

theorem apart_eq_nat (rs : List PRule) (us : List Int) (d : Nat) : (joinP rs [] (batchP (turnP rs) us ((0 : Int) + (d : Int)))).1 = (joinP rs [] (batchP (turnP rs) us 0)).1.map (shift (d : Int)) := apart_eq rs us 0 d
theorem batch_in {rs : List PRule} : ∀ (m : Nat) (us : List Int) (a : Int), us.length ≤ m → ∀ x ∈ batchP rs us a, a ≤ x.at_ ∧ x.at_ ≤ a + us.length
  | 0, us, a, h => by
    have : us = [] := List.eq_nil_of_length_eq_zero (by omega)
    subst this
    simp [batch_nil]
  | m + 1, us, a, h => by
    intro x hx
    by_cases hu : us = []
    · subst hu; simp [batch_nil] at hx
    · have h1 := tok_pos rs us a
      have h2 := List.length_pos_iff.2 hu
      rw [batch_cons rs hu] at hx
      rcases List.mem_cons.1 hx with rfl | hx
      · have : (tokP rs us a).at_ = a := by unfold tokP; split <;> rfl
        omega
      · by_cases hd : us.drop (tokP rs us a).len.toNat = []
        · rw [hd, batch_nil] at hx; simp at hx
        · have h3 := List.length_pos_iff.2 hd
          have h4 := batch_in m _ _ (by simp only [List.length_drop]; omega) x hx
          simp only [List.length_drop] at h3 h4
          omega
theorem join_at (rs : List PRule) (p : Int → Prop) : ∀ (l : List PTok) (ah : List Int), (∀ x ∈ l, p x.at_) → ∀ x ∈ (joinP rs ah l).1, p x.at_
  | [], _, _ => by simp [joinP]
  | y :: l, ah, h => by
    intro x hx
    rcases List.mem_cons.1 hx with rfl | hx
    · have := h y (by simp)
      unfold joinTok; split <;> exact this
    · exact join_at rs p l _ (fun z hz => h z (by simp [hz])) x hx
theorem batch_at {rs : List PRule} (hg : GoodR rs) (us : List Int) : ∀ x ∈ (joinP rs [] (batchP (turnP rs) us 0)).1, 0 ≤ x.at_ ∧ x.at_ ≤ us.length :=
  join_at rs (fun z => 0 ≤ z ∧ z ≤ us.length) _ _ fun x hx => by have := batch_in _ us 0 (Nat.le_refl _) x hx; omega
theorem tok_at {w : World} {M : MS} {cs : List Value} {x : PTok} {d : Int} (h : TokR w M cs x) (hb : I64 (x.at_ + d)) : TokR w M (cs.set 0 (.int .i64 (x.at_ + d))) (shift d x) := by
  obtain ⟨v, h1, h2, h3, h4, h5⟩ := h
  exact ⟨v, by rw [h1]; rfl, h2, hb, h4, h5⟩

theorem apart_walk (w : World) (M : MS) (hm : MB w M) {Ap1 : Option Addr} {cp1 : Nat} {rows : List PRow} (h1 : SlD RowR 5 w M Ap1 cp1 rows) {Ap2 : Option Addr} {cp2 : Nat} {la : List Int} (h2 : SlD ByteR 1 w M Ap2 cp2 la) {Ap3 : Option Addr} {cp3 : Nat} {lb : List Int} (h3 : SlD ByteR 1 w M Ap3 cp3 lb) :
    Fc Try.prog 9 #[.slice Ap1 rows.length cp1, .slice Ap2 la.length cp2, .slice Ap3 lb.length cp3] w fun v w' => v = .bool true ∧ Ext w w' := by
  have hbat := batch_at (rows_good rows) (fewP lb)
  have e0 := Stp.refl w (NoM : MS)
  have hs00 : Ms M M := fun _ h => h
  have hlim := h1.lim
  have hlim2 := h2.lim
  have hlim3 := h3.lim
  have hfa := few_len la
  have hfb := few_len lb
  obtain ⟨hbx, hbxo⟩ := batch_facts (rows_good rows).turn (fewP la) 0
  obtain ⟨hby, hbyo⟩ := batch_facts (rows_good rows).turn (fewP lb) ((0 : Int) + ((fewP la).length : Int))
  obtain ⟨hbw, hbwo⟩ := batch_facts (rows_good rows).turn (fewP lb) 0
  have hlx := join_len (rowsP rows) (batchP (turnP (rowsP rows)) (fewP la) 0) []
  have hlq := join_len (rowsP rows) (batchP (turnP (rowsP rows)) (fewP lb) ((0 : Int) + ((fewP la).length : Int))) []
  have hlw := join_len (rowsP rows) (batchP (turnP (rowsP rows)) (fewP lb) 0) []
  have hlr := join_len (rowsP rows) (batchP (turnP (rowsP rows)) (fewP lb) ((0 : Int) + ((fewP la).length : Int))) (joinP (rowsP rows) [] (batchP (turnP (rowsP rows)) (fewP la) 0)).2
  have hahl : (joinP (rowsP rows) [] (batchP (turnP (rowsP rows)) (fewP la) 0)).2.length ≤ 8 := join_ahead_len _ 8 _ _ (by simp) hbxo
  refine Fc.enter (n := 144) [(0, .slice Ap1 rows.length cp1), (1, .slice Ap2 la.length cp2), (2, .slice Ap3 lb.length cp3)] Try.func9 rfl rfl (Nat.le_of_ble_eq_true rfl) (.cons rfl (.cons rfl (.cons rfl (.nil _)))) ?_
  refine CW.seq ?_
  refine CW.region ?_
  refine WL.assign rfl ?_
  refine WL.nil ?_
  refine CW.seq ?_
  refine CW.seq ?_
  refine CW.region ?_
  refine WL.call Try.func24 rfl rfl (.nil) (awake_spec _ _ hm) (fun _ w1 hr2 => ?_)
  obtain ⟨rfl, he3⟩ := hr2
  have u4 := Ext.up he3 hm
  have e5 := Stp.ext e0 he3
  have hm6 := Up.mb u4
  refine WL.not_ rfl ?_
  refine WL.nil ?_
  refine CW.condF rfl ?_
  refine CW.skip ?_
  refine CW.seq ?_
  refine CW.region ?_
  refine WL.move rfl ?_
  refine WL.call Try.func26 rfl rfl (.cons rfl (.nil)) (Table_spec _ _ hm6 (h1.up u4)) (fun _ w10 hr11 => ?_)
  obtain ⟨⟨A7, c8, rfl, hD9⟩, he12⟩ := hr11
  have u13 := Ext.up he12 hm6
  have e14 := Stp.ext e5 he12
  have hm15 := Up.mb u13
  change SlD RuleR 2 _ _ _ _ (rowsP rows) at hD9
  refine WL.assign rfl ?_
  refine WL.nil ?_
  refine CW.seq ?_
  refine CW.region ?_
  refine WL.move rfl ?_
  refine WL.call Try.func25 rfl rfl (.cons rfl (.nil)) (tableOf_spec _ _ hm15 hD9 (rows_good rows) (rows_closed rows)) (fun _ w16 hr17 => ?_)
  obtain ⟨⟨gt, rfl, hT⟩, he18⟩ := hr17
  have u19 := Ext.up he18 hm15
  have e20 := Stp.ext e14 he18
  have hm21 := Up.mb u19
  refine WL.move rfl ?_
  refine WL.extract rfl rfl ?_
  refine WL.extract rfl rfl ?_
  refine WL.assign rfl ?_
  refine WL.assign rfl ?_
  refine WL.nil ?_
  refine CW.seq ?_
  refine CW.seq ?_
  refine CW.region ?_
  refine WL.move rfl ?_
  refine WL.rn (Rn.pnil Try.underlying45 rfl) ?_
  refine WL.move rfl ?_
  refine WL.gtake rfl rfl rfl ?_
  refine WL.move rfl ?_
  refine WL.gtake rfl rfl rfl ?_
  refine WL.neq rfl rfl ?_
  refine WL.pickF rfl rfl ?_
  refine WL.nil ?_
  have hev22 : ¬ ((0 : Int) ≠ 0) := by decide
  refine CW.condP rfl (fun hn => absurd hn hev22) (fun _ => ?_)
  refine CW.skip ?_
  refine CW.seq ?_
  refine CW.region ?_
  refine WL.move rfl ?_
  refine WL.call Try.func29 rfl rfl (.cons rfl (.nil)) (encode_spec _ _ hm21 hT) (fun _ w23 hr24 => ?_)
  obtain ⟨ge25, rfl, M26, S27, hE28, hnw29, hu30, hms31, he32⟩ := hr24
  have e33 := Stp.ext e20 he32
  have hm34 := Up.mb hu30
  have hs035 : Ms M M26 := fun k h => hms31 k (hs00 k h)
  have fr36 := Ge.le hnw29 (Stp.size e20)
  refine WL.move rfl ?_
  refine WL.call Try.func29 rfl rfl (.cons rfl (.nil)) (encode_spec _ _ hm34 (hT.up hu30)) (fun _ w37 hr38 => ?_)
  obtain ⟨ge39, rfl, M40, S41, hE42, hnw43, hu44, hms45, he46⟩ := hr38
  have e47 := Stp.ext e33 he46
  have hm48 := Up.mb hu44
  have hs049 : Ms M M40 := fun k h => hms45 k (hs035 k h)
  have dj50 := Dj.fresh (T := S27) hnw43 (EncR.ms hE28) hm34
  have fr51 := Ge.le hnw43 (Stp.size e33)
  refine WL.assign rfl ?_
  refine WL.assign rfl ?_
  refine WL.nil ?_
  refine CW.seq ?_
  refine CW.seq ?_
  refine CW.region ?_
  refine WL.move rfl ?_
  refine WL.rn (Rn.pnil Try.underlying61 rfl) ?_
  refine WL.move rfl ?_
  refine WL.gtake rfl rfl rfl ?_
  refine WL.move rfl ?_
  refine WL.gtake rfl rfl rfl ?_
  refine WL.rn (Rn.pnil Try.underlying61 rfl) ?_
  refine WL.pickF rfl rfl ?_
  refine WL.nil ?_
  refine CW.condF rfl ?_
  refine CW.skip ?_
  refine CW.seq ?_
  refine CW.region ?_
  refine WL.move rfl ?_
  refine WL.call Try.func28 rfl rfl (.cons rfl (.nil)) (few_spec _ _ hm48 (h2.up (Up.trans u4 (Up.trans u13 (Up.trans u19 (Up.trans hu30 hu44)))))) (fun _ w55 hr56 => ?_)
  obtain ⟨⟨A52, c53, rfl, hD54⟩, he57⟩ := hr56
  have u58 := Ext.up he57 hm48
  have e59 := Stp.ext e47 he57
  have hm60 := Up.mb u58
  refine WL.move rfl ?_
  refine WL.call Try.func28 rfl rfl (.cons rfl (.nil)) (few_spec _ _ hm60 (h3.up (Up.trans u4 (Up.trans u13 (Up.trans u19 (Up.trans hu30 (Up.trans hu44 u58))))))) (fun _ w64 hr65 => ?_)
  obtain ⟨⟨A61, c62, rfl, hD63⟩, he66⟩ := hr65
  have u67 := Ext.up he66 hm60
  have e68 := Stp.ext e59 he66
  have hm69 := Up.mb u67
  refine WL.assign rfl ?_
  refine WL.assign rfl ?_
  refine WL.nil ?_
  refine CW.seq ?_
  refine CW.region ?_
  refine WL.move rfl ?_
  refine WL.makeInterface Try.underlying61 rfl rfl ?_
  refine WL.move rfl ?_
  have mem71 : Ms S27 M40 := (fun k h => hms45 k ((EncR.ms hE28) k h))
  have h72 := EncR.step hE28 he46 (fun _ _ h => h) hu44 mem71
  have h73 := EncR.step h72 he57 (fun _ _ h => h) u58 mem71
  have h74 := EncR.step h73 he66 (fun _ _ h => h) u67 mem71
  have hF70 := all_spec (enc_mach (rows_good rows) ge25) _ _ hm69 (hD54.up u67) h74 (enc_ok0 (by omega) (by omega) (by simp)) (by omega)
  rw [all_enc (rows_good rows)] at hF70
  refine WL.call Try.func34 rfl rfl (.cons rfl (.cons rfl (.nil))) (hF70) (fun _ w75 hr76 => ?_)
  obtain ⟨M77, S78, hP79, hM80⟩ := hr76
  have hP83 : PutR w64 M40 S27 w75 M77 S78 _ ((joinP (rowsP rows) [] (batchP (turnP (rowsP rows)) (fewP la) 0)).1) := hP79
  obtain ⟨A81, c82, rfl⟩ := Own.form hP83.own
  have hM84 : EncO ge25 (rowsP rows) w75 M77 S78 (⟨[], (0 : Int) + ((fewP la).length : Int), (joinP (rowsP rows) [] (batchP (turnP (rowsP rows)) (fewP la) 0)).2⟩ : EncS) := hM80
  have e85 := Stp.wr e68 (PutR.stp hP83) (Wr.ofFr NoM fr36)
  have hm86 := Up.mb (PutR.up hP83)
  have hs087 : Ms M M77 := fun k h => (PutR.ms hP83) k (hs049 k h)
  have mem89 : Ms S41 M40 := (EncR.ms hE42)
  have dj88 := Dj.grow (Dj.symm dj50) (PutR.wr hP83) mem89 hm69
  have fr91 := Ge.grow fr36 (PutR.wr hP83) (Stp.size e68)
  have ge92 := Ge.grow hnw29 (PutR.wr hP83) (Stp.size (Up.stp (Up.trans hu30 (Up.trans hu44 (Up.trans u58 u67)))))
  have dj93 := Dj.fresh (T := S41) (PutR.new hP83) mem89 hm69
  have fr94 := Ge.le (PutR.new hP83) (Stp.size e68)
  refine WL.assign rfl ?_
  refine WL.nil ?_
  refine CW.seq ?_
  refine CW.region ?_
  refine WL.move rfl ?_
  refine WL.call Try.func37 rfl rfl (.cons rfl (.nil)) (encApart_spec _ _ hm86 hM84) (fun _ w95 hr96 => ?_)
  obtain ⟨M97, S98, hE99, hu100, hms101, hst102, hwr103⟩ := hr96
  have e104 := Stp.wr e85 hst102 (Wr.ofFr NoM fr91)
  have hm105 := Up.mb hu100
  have hs0106 : Ms M M97 := fun k h => hms101 k (hs087 k h)
  have hE107 : EncO ge25 (rowsP rows) w95 M97 S98 (⟨[], (0 : Int) + ((fewP la).length : Int), []⟩ : EncS) := hE99
  have mem109 : Ms S41 M77 := (fun k h => (PutR.ms hP83) k (mem89 k h))
  have dj108 := Dj.grow dj88 hwr103 mem109 hm86
  have dj110 := Dj.grow (Dj.symm (PutR.dj hP83)) hwr103 (Own.ms (PutR.own hP83)) hm86
  have fr112 := Ge.grow fr91 hwr103 (Stp.size e85)
  have ge113 := Ge.grow ge92 hwr103 (Stp.size (Up.stp (Up.trans hu30 (Up.trans hu44 (Up.trans u58 (Up.trans u67 (PutR.up hP83)))))))
  refine WL.nil ?_
  refine CW.seq ?_
  refine CW.region ?_
  refine WL.move rfl ?_
  refine WL.makeInterface Try.underlying61 rfl rfl ?_
  refine WL.move rfl ?_
  have hF114 := all_spec (enc_mach (rows_good rows) ge25) _ _ hm105 (hD63.up (Up.trans (PutR.up hP83) hu100)) hE107 (enc_ok0 (by omega) (by omega) (by simp)) (by omega)
  rw [all_enc (rows_good rows)] at hF114
  refine WL.call Try.func34 rfl rfl (.cons rfl (.cons rfl (.nil))) (hF114) (fun _ w115 hr116 => ?_)
  obtain ⟨M117, S118, hP119, hM120⟩ := hr116
  have hP123 : PutR w95 M97 S98 w115 M117 S118 _ ((joinP (rowsP rows) [] (batchP (turnP (rowsP rows)) (fewP lb) ((0 : Int) + ((fewP la).length : Int)))).1) := hP119
  obtain ⟨A121, c122, rfl⟩ := Own.form hP123.own
  have hM124 : EncO ge25 (rowsP rows) w115 M117 S118 (⟨[], (0 : Int) + ((fewP la).length : Int) + ((fewP lb).length : Int), (joinP (rowsP rows) [] (batchP (turnP (rowsP rows)) (fewP lb) ((0 : Int) + ((fewP la).length : Int)))).2⟩ : EncS) := hM120
  have e125 := Stp.wr e104 (PutR.stp hP123) (Wr.ofFr NoM fr112)
  have hm126 := Up.mb (PutR.up hP123)
  have hs0127 : Ms M M117 := fun k h => (PutR.ms hP123) k (hs0106 k h)
  have mem129 : Ms S41 M97 := (fun k h => hms101 k (mem109 k h))
  have dj128 := Dj.grow dj108 (PutR.wr hP123) mem129 hm105
  have mem131 : Ms (ob (.slice A81 ((joinP (rowsP rows) [] (batchP (turnP (rowsP rows)) (fewP la) 0)).1).length c82)) M97 := (fun k h => hms101 k ((Own.ms (PutR.own hP83)) k h))
  have dj130 := Dj.grow dj110 (PutR.wr hP123) mem131 hm105
  have fr133 := Ge.grow fr112 (PutR.wr hP123) (Stp.size e104)
  have ge134 := Ge.grow ge113 (PutR.wr hP123) (Stp.size (Up.stp (Up.trans hu30 (Up.trans hu44 (Up.trans u58 (Up.trans u67 (Up.trans (PutR.up hP83) hu100)))))))
  have dj135 := Dj.fresh (T := S41) (PutR.new hP123) mem129 hm105
  have dj136 := Dj.fresh (T := (ob (.slice A81 ((joinP (rowsP rows) [] (batchP (turnP (rowsP rows)) (fewP la) 0)).1).length c82))) (PutR.new hP123) mem131 hm105
  have fr137 := Ge.le (PutR.new hP123) (Stp.size e104)
  refine WL.assign rfl ?_
  refine WL.nil ?_
  refine CW.seq ?_
  refine CW.region ?_
  refine WL.move rfl ?_
  refine WL.move rfl ?_
  refine WL.call Try.func36 rfl rfl (.cons rfl (.cons rfl (.nil))) (lawEncode_spec _ _ hm126 (hD9.up (Up.trans u19 (Up.trans hu30 (Up.trans hu44 (Up.trans u58 (Up.trans u67 (Up.trans (PutR.up hP83) (Up.trans hu100 (PutR.up hP123))))))))) (hD63.up (Up.trans (PutR.up hP83) (Up.trans hu100 (PutR.up hP123)))) (rows_good rows) (by omega)) (fun _ w138 hr139 => ?_)
  obtain ⟨M140, hP141⟩ := hr139
  obtain ⟨A142, c143, rfl⟩ := Own.form hP141.own
  have e144 := Stp.ext e125 (NewR.ext hP141)
  have hm145 := Up.mb (NewR.up hP141)
  have hs0146 : Ms M M140 := fun k h => (NewR.ms hP141) k (hs0127 k h)
  have dj147 := Dj.fresh (T := S118) (NewR.new hP141) (EncR.ms hM124) hm126
  have mem149 : Ms S41 M117 := (fun k h => (PutR.ms hP123) k (mem129 k h))
  have dj148 := Dj.fresh (T := S41) (NewR.new hP141) mem149 hm126
  have mem151 : Ms (ob (.slice A81 ((joinP (rowsP rows) [] (batchP (turnP (rowsP rows)) (fewP la) 0)).1).length c82)) M117 := (fun k h => (PutR.ms hP123) k (mem131 k h))
  have dj150 := Dj.fresh (T := (ob (.slice A81 ((joinP (rowsP rows) [] (batchP (turnP (rowsP rows)) (fewP la) 0)).1).length c82))) (NewR.new hP141) mem151 hm126
  have dj152 := Dj.fresh (T := (ob (.slice A121 ((joinP (rowsP rows) [] (batchP (turnP (rowsP rows)) (fewP lb) ((0 : Int) + ((fewP la).length : Int)))).1).length c122))) (NewR.new hP141) (Own.ms (PutR.own hP123)) hm126
  have fr153 := Ge.le (NewR.new hP141) (Stp.size e125)
  refine WL.assign rfl ?_
  refine WL.nil ?_
  refine CW.seq ?_
  refine CW.seq ?_
  refine CW.region ?_
  refine WL.move rfl ?_
  refine WL.len Try.underlying55 rfl ?_
  refine WL.move rfl ?_
  refine WL.nil ?_
  refine CW.block ?_
  have mem161 : Ms S118 M140 := (fun k h => (NewR.ms hP141) k ((EncR.ms hM124) k h))
  have h162 := EncR.step hM124 (NewR.ext hP141) (fun _ _ h => h) (NewR.up hP141) mem161
  have mem164 : Ms S41 M40 := (EncR.ms hE42)
  have h165 := EncR.step hE42 he57 (fun _ _ h => h) u58 mem164
  have h166 := EncR.step h165 he66 (fun _ _ h => h) u67 mem89
  have h167 := EncR.step h166 (PutR.stp hP83) dj50 (PutR.up hP83) mem109
  have h168 := EncR.step h167 hst102 (Dj.symm dj88) hu100 mem129
  have h169 := EncR.step h168 (PutR.stp hP123) (Dj.symm dj108) (PutR.up hP123) mem149
  have mem170 : Ms S41 M140 := (fun k h => (NewR.ms hP141) k (mem149 k h))
  have h171 := EncR.step h169 (NewR.ext hP141) (fun _ _ h => h) (NewR.up hP141) mem170
  have h173 := Own.step (PutR.own hP83) hst102 (PutR.dj hP83) hu100 mem131
  have h174 := Own.step h173 (PutR.stp hP123) (Dj.symm dj110) (PutR.up hP123) mem151
  have h175 := Own.ext h174 (NewR.ext hP141) (NewR.up hP141) (NewR.ms hP141)
  have h177 := Own.ext (PutR.own hP123) (NewR.ext hP141) (NewR.up hP141) (NewR.ms hP141)
  refine CW.loop (fun m σ wr0 => ∃ k : Nat, ∃ Mr154 : MS, m = (joinP (rowsP rows) [] (batchP (turnP (rowsP rows)) (fewP lb) 0)).1.length - k ∧ σ = [(7, .slice A7 ((rowsP rows).length) c8), (11, .pointer (some ⟨ge39, 0, none⟩)), (12, .slice A52 ((fewP la).length) c53), (13, .slice A61 ((fewP lb).length) c62), (14, .slice A81 (((joinP (rowsP rows) [] (batchP (turnP (rowsP rows)) (fewP la) 0)).1).length) c82), (15, .slice A121 (((joinP (rowsP rows) [] (batchP (turnP (rowsP rows)) (fewP lb) ((0 : Int) + ((fewP la).length : Int)))).1).length) c122), (16, .slice A142 (((joinP (rowsP rows) [] (batchP (turnP (rowsP rows)) (fewP lb) 0)).1).length) c143), (65, .int .i64 (((joinP (rowsP rows) [] (batchP (turnP (rowsP rows)) (fewP lb) 0)).1).length : Int)), (66, .int .i64 (k : Int))] ∧ (Up w138 M140 wr0 Mr154) ∧ (Stp w wr0 NoM) ∧ (Ms M140 Mr154) ∧ (Ms M Mr154) ∧ (EncO ge25 (rowsP rows) wr0 Mr154 S118 (⟨[], (0 : Int) + ((fewP la).length : Int) + ((fewP lb).length : Int), (joinP (rowsP rows) [] (batchP (turnP (rowsP rows)) (fewP lb) ((0 : Int) + ((fewP la).length : Int)))).2⟩ : EncS)) ∧ (EncO ge39 (rowsP rows) wr0 Mr154 S41 ⟨[], 0, []⟩) ∧ (Own TokR 4 58 wr0 Mr154 0 (.slice A81 (((joinP (rowsP rows) [] (batchP (turnP (rowsP rows)) (fewP la) 0)).1).length) c82) ((joinP (rowsP rows) [] (batchP (turnP (rowsP rows)) (fewP la) 0)).1)) ∧ (Own TokR 4 58 wr0 Mr154 0 (.slice A121 (((joinP (rowsP rows) [] (batchP (turnP (rowsP rows)) (fewP lb) ((0 : Int) + ((fewP la).length : Int)))).1).length) c122) ((joinP (rowsP rows) [] (batchP (turnP (rowsP rows)) (fewP lb) ((0 : Int) + ((fewP la).length : Int)))).1)) ∧ (Own TokR 4 58 wr0 Mr154 0 (.slice A142 (((joinP (rowsP rows) [] (batchP (turnP (rowsP rows)) (fewP lb) 0)).1).length) c143) (((joinP (rowsP rows) [] (batchP (turnP (rowsP rows)) (fewP lb) 0)).1.take k).map (shift ((fewP la).length : Int)) ++ (joinP (rowsP rows) [] (batchP (turnP (rowsP rows)) (fewP lb) 0)).1.drop k)) ∧ (k ≤ (joinP (rowsP rows) [] (batchP (turnP (rowsP rows)) (fewP lb) 0)).1.length)) _ _ (.cons (t := 7) rfl (.cons (t := 11) rfl (.cons (t := 12) rfl (.cons (t := 13) rfl (.cons (t := 14) rfl (.cons (t := 15) rfl (.cons (t := 16) rfl (.cons (t := 65) rfl (.cons (t := 66) rfl (.nil _)))))))))) ⟨0, M140, rfl, rfl, Up.refl hm145, e144, fun _ h => h, hs0146, h162, h171, h175, h177, by simpa using (NewR.own hP141), by omega⟩ ?_
  rintro m _ wr0 ⟨k, Mr154, rfl, rfl, hU155, hE156, hsp158, hsb159, h160, h163, h172, h176, h178, hk⟩
  have hm157 := Up.mb hU155
  have mem179 : Ms S118 Mr154 := (fun k h => hsp158 k (mem161 k h))
  have mem180 : Ms S41 Mr154 := (fun k h => hsp158 k (mem170 k h))
  have mem181 : Ms (ob (.slice A81 ((joinP (rowsP rows) [] (batchP (turnP (rowsP rows)) (fewP la) 0)).1).length c82)) Mr154 := (fun k h => hsp158 k ((fun k h => (NewR.ms hP141) k (mem151 k h)) k h))
  have hlen182 := Own.len h172
  have mem183 : Ms (ob (.slice A121 ((joinP (rowsP rows) [] (batchP (turnP (rowsP rows)) (fewP lb) ((0 : Int) + ((fewP la).length : Int)))).1).length c122)) Mr154 := (fun k h => hsp158 k ((fun k h => (NewR.ms hP141) k ((Own.ms (PutR.own hP123)) k h)) k h))
  have hlen184 := Own.len h176
  have mem185 : Ms (ob (.slice A142 ((joinP (rowsP rows) [] (batchP (turnP (rowsP rows)) (fewP lb) 0)).1).length c143)) Mr154 := (fun k h => hsp158 k ((Own.ms (NewR.own hP141)) k h))
  have hlen186 := Own.len h178
  refine CW.seq ?_
  refine CW.region ?_
  refine WL.lss rfl rfl ?_
  refine WL.nil ?_
  refine CW.seq ?_
  refine CW.condP rfl (fun hc187 => ?_) (fun hc187 => ?_)
  · have hkl : k < (joinP (rowsP rows) [] (batchP (turnP (rowsP rows)) (fewP lb) 0)).1.length := by omega
    have hpl : (((joinP (rowsP rows) [] (batchP (turnP (rowsP rows)) (fewP lb) 0)).1.take k).map (shift ((fewP la).length : Int))).length = k := by simp; omega
    have hxx := (hbat (joinP (rowsP rows) [] (batchP (turnP (rowsP rows)) (fewP lb) 0)).1[k] (List.getElem_mem hkl))
    refine CW.skip ?_
    refine CW.seq ?_
    refine CW.block ?_
    refine CW.seq ?_
    refine CW.region ?_
    refine WL.move rfl ?_
    refine WL.assign rfl ?_
    refine WL.nil ?_
    refine CW.region ?_
    refine WL.move rfl ?_
    refine WL.move rfl ?_
    have hlt188 : k < (((joinP (rowsP rows) [] (batchP (turnP (rowsP rows)) (fewP lb) 0)).1.take k).map (shift ((fewP la).length : Int)) ++ (joinP (rowsP rows) [] (batchP (turnP (rowsP rows)) (fewP lb) 0)).1.drop k).length := by first | omega | (simp only [List.length_append, List.length_set, List.length_drop, List.length_map, List.length_take]; omega)
    obtain ⟨ad189, cs190, hA191, hs192, hat193, hR194⟩ := Own.get h178 hlt188
    rw [show (((joinP (rowsP rows) [] (batchP (turnP (rowsP rows)) (fewP lb) 0)).1.take k).map (shift ((fewP la).length : Int)) ++ (joinP (rowsP rows) [] (batchP (turnP (rowsP rows)) (fewP lb) 0)).1.drop k)[k] = (joinP (rowsP rows) [] (batchP (turnP (rowsP rows)) (fewP lb) 0)).1[k] from get_mid hpl hkl _] at hR194
    obtain ⟨_, hx197, ⟨A195, c196, rfl, hD198⟩, hi199, hi200, hi201⟩ := hR194
    rw [hx197] at hat193
    have hl202 := SlD.lim hD198
    simp only [I64] at hi199 hi200 hi201
    refine WL.idx es55 rfl rfl hA191 (by omega) (by omega) ?_
    refine WL.fieldAddr fo58_0 rfl ?_
    refine WL.load sc3 rfl (At.cell hat193 0 _ rfl) ?_
    refine WL.move rfl ?_
    refine WL.len Try.underlying29 rfl ?_
    refine WL.add rfl rfl (by omega) ?_
    have hlt203 : k < (((joinP (rowsP rows) [] (batchP (turnP (rowsP rows)) (fewP lb) 0)).1.take k).map (shift ((fewP la).length : Int)) ++ (joinP (rowsP rows) [] (batchP (turnP (rowsP rows)) (fewP lb) 0)).1.drop k).length := by first | omega | (simp only [List.length_append, List.length_set, List.length_drop, List.length_map, List.length_take]; omega)
    obtain ⟨ad204, cs205, hA206, hs207, hat208, hR209⟩ := Own.get h178 hlt203
    rw [show (((joinP (rowsP rows) [] (batchP (turnP (rowsP rows)) (fewP lb) 0)).1.take k).map (shift ((fewP la).length : Int)) ++ (joinP (rowsP rows) [] (batchP (turnP (rowsP rows)) (fewP lb) 0)).1.drop k)[k] = (joinP (rowsP rows) [] (batchP (turnP (rowsP rows)) (fewP lb) 0)).1[k] from get_mid hpl hkl _] at hR209
    obtain ⟨_, hx212, ⟨A210, c211, rfl, hD213⟩, hi214, hi215, hi216⟩ := hR209
    rw [hx212] at hat208
    have hl217 := SlD.lim hD213
    simp only [I64] at hi214 hi215 hi216
    refine WL.idx es55 rfl rfl hA206 (by omega) (by omega) ?_
    refine WL.fieldAddr fo58_0 rfl ?_
    refine WL.storeOwn (x' := (shift ((fewP la).length : Int) (joinP (rowsP rows) [] (batchP (turnP (rowsP rows)) (fewP lb) 0)).1[k])) (off := 0) h178 hA206 hm157 hlt203 (by decide) (by rw [ti3]; rfl) rfl rfl rfl (fun w' cs h_ => tok_at (by rw [get_mid hpl hkl _] at h_; exact h_) ⟨by omega, by omega⟩) (fun w218 hO219 hs220 u221 => ?_)
    have e222 := Stp.wr hE156 hs220 (Wr.ofFr NoM fr153)
    have hm223 := Up.mb u221
    refine WL.nil ?_
    refine CW.region ?_
    refine WL.add rfl rfl (by omega) ?_
    refine WL.move rfl ?_
    refine WL.nil ?_
    have h224 := EncR.step h160 hs220 (Dj.symm dj147) u221 mem179
    have h225 := EncR.step h163 hs220 (Dj.symm dj148) u221 mem180
    have h226 := Own.step h172 hs220 (Dj.symm dj150) u221 mem181
    have h227 := Own.step h176 hs220 (Dj.symm dj152) u221 mem183
    refine Loop.again _ _ ?_ ?_ ⟨k + 1, Mr154, rfl, rfl, (Up.trans hU155 u221), e222, hsp158, hsb159, h224, h225, h226, h227, by rw [map_take_succ (shift ((fewP la).length : Int)) hkl, ← set_mid (by simp; omega) hkl]; exact hO219, by omega⟩
    · omega
    · exact .cons (t := 7) rfl (.cons (t := 11) rfl (.cons (t := 12) rfl (.cons (t := 13) rfl (.cons (t := 14) rfl (.cons (t := 15) rfl (.cons (t := 16) rfl (.cons (t := 65) rfl (.cons (t := 66) rfl (.nil _)))))))))
  · have hke : k = (joinP (rowsP rows) [] (batchP (turnP (rowsP rows)) (fewP lb) 0)).1.length := by omega
    have hwe : ((joinP (rowsP rows) [] (batchP (turnP (rowsP rows)) (fewP lb) 0)).1.take k).map (shift ((fewP la).length : Int)) ++ (joinP (rowsP rows) [] (batchP (turnP (rowsP rows)) (fewP lb) 0)).1.drop k = (joinP (rowsP rows) [] (batchP (turnP (rowsP rows)) (fewP lb) 0)).1.map (shift ((fewP la).length : Int)) := by rw [hke, List.take_length, List.drop_length, List.append_nil]
    refine CW.exit ?_
    refine CW.seq ?_
    refine CW.seq ?_
    refine CW.region ?_
    refine WL.move rfl ?_
    refine WL.move rfl ?_
    refine WL.move rfl ?_
    refine WL.call Try.func36 rfl rfl (.cons rfl (.cons rfl (.nil))) (lawEncode_spec _ _ hm157 (hD9.up (Up.trans u19 (Up.trans hu30 (Up.trans hu44 (Up.trans u58 (Up.trans u67 (Up.trans (PutR.up hP83) (Up.trans hu100 (Up.trans (PutR.up hP123) (Up.trans (NewR.up hP141) hU155)))))))))) (hD54.up (Up.trans u67 (Up.trans (PutR.up hP83) (Up.trans hu100 (Up.trans (PutR.up hP123) (Up.trans (NewR.up hP141) hU155)))))) (rows_good rows) (by omega)) (fun _ w228 hr229 => ?_)
    obtain ⟨M230, hP231⟩ := hr229
    obtain ⟨A232, c233, rfl⟩ := Own.form hP231.own
    have e234 := Stp.ext hE156 (NewR.ext hP231)
    have hm235 := Up.mb (NewR.up hP231)
    have hs0236 : Ms M M230 := fun k h => (NewR.ms hP231) k (hsb159 k h)
    have hs0237 : Ms M140 M230 := fun k h => (NewR.ms hP231) k (hsp158 k h)
    have dj238 := Dj.fresh (T := S118) (NewR.new hP231) mem179 hm157
    have dj239 := Dj.fresh (T := S41) (NewR.new hP231) mem180 hm157
    have dj240 := Dj.fresh (T := (ob (.slice A81 ((joinP (rowsP rows) [] (batchP (turnP (rowsP rows)) (fewP la) 0)).1).length c82))) (NewR.new hP231) mem181 hm157
    have dj241 := Dj.fresh (T := (ob (.slice A121 ((joinP (rowsP rows) [] (batchP (turnP (rowsP rows)) (fewP lb) ((0 : Int) + ((fewP la).length : Int)))).1).length c122))) (NewR.new hP231) mem183 hm157
    have dj242 := Dj.fresh (T := (ob (.slice A142 ((joinP (rowsP rows) [] (batchP (turnP (rowsP rows)) (fewP lb) 0)).1).length c143))) (NewR.new hP231) mem185 hm157
    have fr243 := Ge.le (NewR.new hP231) (Stp.size hE156)
    have h244 := Own.ext h172 (NewR.ext hP231) (NewR.up hP231) (NewR.ms hP231)
    refine WL.call Try.func33 rfl rfl (.cons rfl (.cons rfl (.nil))) (Same_spec _ _ (MB.none _) (Own.read00 h244 hm235) (Own.read00 (NewR.own hP231) hm235)) (fun _ w245 hr246 => ?_)
    obtain ⟨rfl, he247⟩ := hr246
    have u248 := Ext.up he247 hm235
    have e249 := Stp.ext e234 he247
    have hm250 := Up.mb u248
    refine WL.not_ rfl ?_
    refine WL.move rfl ?_
    have hev251 : (!decide ((joinP (rowsP rows) [] (batchP (turnP (rowsP rows)) (fewP la) 0)).1 = (joinP (rowsP rows) [] (batchP (turnP (rowsP rows)) (fewP la) 0)).1)) = false := by rw [decide_eq_true (show (joinP (rowsP rows) [] (batchP (turnP (rowsP rows)) (fewP la) 0)).1 = (joinP (rowsP rows) [] (batchP (turnP (rowsP rows)) (fewP la) 0)).1 from rfl)]; rfl
    refine WL.gtake rfl rfl hev251 ?_
    refine WL.move rfl ?_
    refine WL.gtake rfl rfl hev251 ?_
    refine WL.move rfl ?_
    refine WL.gtake rfl rfl hev251 ?_
    have h252 := Own.ext h176 (NewR.ext hP231) (NewR.up hP231) (NewR.ms hP231)
    have h253 := Own.ext h252 he247 u248 (fun _ h => h)
    have h254 := Own.ext h178 (NewR.ext hP231) (NewR.up hP231) (NewR.ms hP231)
    have h255 := Own.ext h254 he247 u248 (fun _ h => h)
    refine WL.call Try.func33 rfl rfl (.cons rfl (.cons rfl (.nil))) (by have hz_ := Same_spec _ _ (MB.none _) (Own.read00 h253 hm250) (Own.read00 h255 hm250); rw [← Own.n h255] at hz_; exact hz_) (fun _ w256 hr257 => ?_)
    obtain ⟨rfl, he258⟩ := hr257
    have u259 := Ext.up he258 hm250
    have e260 := Stp.ext e249 he258
    have hm261 := Up.mb u259
    refine WL.gtake rfl rfl hev251 ?_
    refine WL.not_ rfl ?_
    refine WL.pickF (congrArg (fun b => some (Value.bool b)) hev251) rfl ?_
    refine WL.nil ?_
    have hev262 : (!decide ((joinP (rowsP rows) [] (batchP (turnP (rowsP rows)) (fewP lb) ((0 : Int) + ((fewP la).length : Int)))).1 = ((joinP (rowsP rows) [] (batchP (turnP (rowsP rows)) (fewP lb) 0)).1.take k).map (shift ((fewP la).length : Int)) ++ (joinP (rowsP rows) [] (batchP (turnP (rowsP rows)) (fewP lb) 0)).1.drop k)) = false := by rw [decide_eq_true (show (joinP (rowsP rows) [] (batchP (turnP (rowsP rows)) (fewP lb) ((0 : Int) + ((fewP la).length : Int)))).1 = ((joinP (rowsP rows) [] (batchP (turnP (rowsP rows)) (fewP lb) 0)).1.take k).map (shift ((fewP la).length : Int)) ++ (joinP (rowsP rows) [] (batchP (turnP (rowsP rows)) (fewP lb) 0)).1.drop k from by rw [hwe]; exact apart_eq_nat (rowsP rows) (fewP lb) (fewP la).length)]; rfl
    refine CW.condF (congrArg (fun b => some (Value.bool b)) hev262) ?_
    refine CW.skip ?_
    refine CW.seq ?_
    refine CW.region ?_
    refine WL.move rfl ?_
    refine WL.makeInterface Try.underlying61 rfl rfl ?_
    refine WL.move rfl ?_
    have mem264 : Ms S41 M230 := (fun k h => (NewR.ms hP231) k (mem180 k h))
    have h265 := EncR.step h163 (NewR.ext hP231) (fun _ _ h => h) (NewR.up hP231) mem264
    have h266 := EncR.step h265 he247 (fun _ _ h => h) u248 mem264
    have h267 := EncR.step h266 he258 (fun _ _ h => h) u259 mem264
    have hF263 := all_spec (enc_mach (rows_good rows) ge39) _ _ hm261 (hD54.up (Up.trans u67 (Up.trans (PutR.up hP83) (Up.trans hu100 (Up.trans (PutR.up hP123) (Up.trans (NewR.up hP141) (Up.trans hU155 (Up.trans (NewR.up hP231) (Up.trans u248 u259))))))))) h267 (enc_ok0 (by omega) (by omega) (by simp)) (by omega)
    rw [all_enc (rows_good rows)] at hF263
    refine WL.call Try.func34 rfl rfl (.cons rfl (.cons rfl (.nil))) (hF263) (fun _ w268 hr269 => ?_)
    obtain ⟨M270, S271, hP272, hM273⟩ := hr269
    have hP276 : PutR w256 M230 S41 w268 M270 S271 _ ((joinP (rowsP rows) [] (batchP (turnP (rowsP rows)) (fewP la) 0)).1) := hP272
    obtain ⟨A274, c275, rfl⟩ := Own.form hP276.own
    have hM277 : EncO ge39 (rowsP rows) w268 M270 S271 (⟨[], (0 : Int) + ((fewP la).length : Int), (joinP (rowsP rows) [] (batchP (turnP (rowsP rows)) (fewP la) 0)).2⟩ : EncS) := hM273
    have e278 := Stp.wr e260 (PutR.stp hP276) (Wr.ofFr NoM fr51)
    have hm279 := Up.mb (PutR.up hP276)
    have hs0280 : Ms M M270 := fun k h => (PutR.ms hP276) k (hs0236 k h)
    have hs0281 : Ms M140 M270 := fun k h => (PutR.ms hP276) k (hs0237 k h)
    have mem283 : Ms S118 M230 := (fun k h => (NewR.ms hP231) k (mem179 k h))
    have dj282 := Dj.grow (Dj.symm dj128) (PutR.wr hP276) mem283 hm261
    have mem285 : Ms (ob (.slice A81 ((joinP (rowsP rows) [] (batchP (turnP (rowsP rows)) (fewP la) 0)).1).length c82)) M230 := (fun k h => (NewR.ms hP231) k (mem181 k h))
    have dj284 := Dj.grow (Dj.symm dj93) (PutR.wr hP276) mem285 hm261
    have mem287 : Ms (ob (.slice A121 ((joinP (rowsP rows) [] (batchP (turnP (rowsP rows)) (fewP lb) ((0 : Int) + ((fewP la).length : Int)))).1).length c122)) M230 := (fun k h => (NewR.ms hP231) k (mem183 k h))
    have dj286 := Dj.grow (Dj.symm dj135) (PutR.wr hP276) mem287 hm261
    have mem289 : Ms (ob (.slice A142 ((joinP (rowsP rows) [] (batchP (turnP (rowsP rows)) (fewP lb) 0)).1).length c143)) M230 := (fun k h => (NewR.ms hP231) k (mem185 k h))
    have dj288 := Dj.grow (Dj.symm dj148) (PutR.wr hP276) mem289 hm261
    have mem291 : Ms (ob (.slice A232 ((joinP (rowsP rows) [] (batchP (turnP (rowsP rows)) (fewP la) 0)).1).length c233)) M230 := (Own.ms (NewR.own hP231))
    have dj290 := Dj.grow (Dj.symm dj239) (PutR.wr hP276) mem291 hm261
    have fr293 := Ge.grow fr51 (PutR.wr hP276) (Stp.size e260)
    have ge294 := Ge.grow hnw43 (PutR.wr hP276) (Stp.size (Up.stp (Up.trans hu44 (Up.trans u58 (Up.trans u67 (Up.trans (PutR.up hP83) (Up.trans hu100 (Up.trans (PutR.up hP123) (Up.trans (NewR.up hP141) (Up.trans hU155 (Up.trans (NewR.up hP231) (Up.trans u248 u259))))))))))))
    have dj295 := Dj.fresh (T := S118) (PutR.new hP276) mem283 hm261
    have dj296 := Dj.fresh (T := (ob (.slice A81 ((joinP (rowsP rows) [] (batchP (turnP (rowsP rows)) (fewP la) 0)).1).length c82))) (PutR.new hP276) mem285 hm261
    have dj297 := Dj.fresh (T := (ob (.slice A121 ((joinP (rowsP rows) [] (batchP (turnP (rowsP rows)) (fewP lb) ((0 : Int) + ((fewP la).length : Int)))).1).length c122))) (PutR.new hP276) mem287 hm261
    have dj298 := Dj.fresh (T := (ob (.slice A142 ((joinP (rowsP rows) [] (batchP (turnP (rowsP rows)) (fewP lb) 0)).1).length c143))) (PutR.new hP276) mem289 hm261
    have dj299 := Dj.fresh (T := (ob (.slice A232 ((joinP (rowsP rows) [] (batchP (turnP (rowsP rows)) (fewP la) 0)).1).length c233))) (PutR.new hP276) mem291 hm261
    have fr300 := Ge.le (PutR.new hP276) (Stp.size e260)
    refine WL.nil ?_
    refine CW.seq ?_
    refine CW.region ?_
    refine WL.assign rfl ?_
    refine WL.nil ?_
    refine CW.seq ?_
    refine CW.seq ?_
    refine CW.region ?_
    refine WL.move rfl ?_
    refine WL.len Try.underlying55 rfl ?_
    refine WL.move rfl ?_
    refine WL.nil ?_
    refine CW.block ?_
    have mem308 : Ms S118 M230 := (fun k h => (NewR.ms hP231) k (mem179 k h))
    have h309 := EncR.step h160 (NewR.ext hP231) (fun _ _ h => h) (NewR.up hP231) mem308
    have h310 := EncR.step h309 he247 (fun _ _ h => h) u248 mem308
    have h311 := EncR.step h310 he258 (fun _ _ h => h) u259 mem283
    have mem312 : Ms S118 M270 := (fun k h => (PutR.ms hP276) k (mem283 k h))
    have h313 := EncR.step h311 (PutR.stp hP276) dj128 (PutR.up hP276) mem312
    have h316 := Own.ext h244 he247 u248 (fun _ h => h)
    have h317 := Own.ext h316 he258 u259 (fun _ h => h)
    have mem318 : Ms (ob (.slice A81 ((joinP (rowsP rows) [] (batchP (turnP (rowsP rows)) (fewP la) 0)).1).length c82)) M270 := (fun k h => (PutR.ms hP276) k (mem285 k h))
    have h319 := Own.step h317 (PutR.stp hP276) dj93 (PutR.up hP276) mem318
    have h321 := Own.ext h253 he258 u259 (fun _ h => h)
    have mem322 : Ms (ob (.slice A121 ((joinP (rowsP rows) [] (batchP (turnP (rowsP rows)) (fewP lb) ((0 : Int) + ((fewP la).length : Int)))).1).length c122)) M270 := (fun k h => (PutR.ms hP276) k (mem287 k h))
    have h323 := Own.step h321 (PutR.stp hP276) dj135 (PutR.up hP276) mem322
    have h325 := Own.ext h255 he258 u259 (fun _ h => h)
    have mem326 : Ms (ob (.slice A142 ((joinP (rowsP rows) [] (batchP (turnP (rowsP rows)) (fewP lb) 0)).1).length c143)) M270 := (fun k h => (PutR.ms hP276) k (mem289 k h))
    have h327 := Own.step h325 (PutR.stp hP276) dj148 (PutR.up hP276) mem326
    have h329 := Own.ext (NewR.own hP231) he247 u248 (fun _ h => h)
    have h330 := Own.ext h329 he258 u259 (fun _ h => h)
    have mem331 : Ms (ob (.slice A232 ((joinP (rowsP rows) [] (batchP (turnP (rowsP rows)) (fewP la) 0)).1).length c233)) M270 := (fun k h => (PutR.ms hP276) k (mem291 k h))
    have h332 := Own.step h330 (PutR.stp hP276) dj239 (PutR.up hP276) mem331
    refine CW.loop (fun m σ wr2 => ∃ kk : Nat, ∃ ao : List Int, ∃ Ao : Option Addr, ∃ co : Nat, ∃ Mr301 : MS, m = (joinP (rowsP rows) [] (batchP (turnP (rowsP rows)) (fewP la) 0)).1.length - kk ∧ σ = [(7, .slice A7 ((rowsP rows).length) c8), (11, .pointer (some ⟨ge39, 0, none⟩)), (13, .slice A61 ((fewP lb).length) c62), (15, .slice A121 (((joinP (rowsP rows) [] (batchP (turnP (rowsP rows)) (fewP lb) ((0 : Int) + ((fewP la).length : Int)))).1).length) c122), (18, .slice Ao ao.length co), (96, .slice A81 (((joinP (rowsP rows) [] (batchP (turnP (rowsP rows)) (fewP la) 0)).1).length) c82), (97, .int .i64 (((joinP (rowsP rows) [] (batchP (turnP (rowsP rows)) (fewP la) 0)).1).length : Int)), (98, .int .i64 (kk : Int))] ∧ (Up w268 M270 wr2 Mr301) ∧ (Stp w wr2 NoM) ∧ (Ms M270 Mr301) ∧ (Ms M Mr301) ∧ (EncO ge25 (rowsP rows) wr2 Mr301 S118 (⟨[], (0 : Int) + ((fewP la).length : Int) + ((fewP lb).length : Int), (joinP (rowsP rows) [] (batchP (turnP (rowsP rows)) (fewP lb) ((0 : Int) + ((fewP la).length : Int)))).2⟩ : EncS)) ∧ (EncO ge39 (rowsP rows) wr2 Mr301 S271 (⟨[], (0 : Int) + ((fewP la).length : Int), (joinP (rowsP rows) [] (batchP (turnP (rowsP rows)) (fewP la) 0)).2⟩ : EncS)) ∧ (Own TokR 4 58 wr2 Mr301 0 (.slice A81 (((joinP (rowsP rows) [] (batchP (turnP (rowsP rows)) (fewP la) 0)).1).length) c82) ((joinP (rowsP rows) [] (batchP (turnP (rowsP rows)) (fewP la) 0)).1)) ∧ (Own TokR 4 58 wr2 Mr301 0 (.slice A121 (((joinP (rowsP rows) [] (batchP (turnP (rowsP rows)) (fewP lb) ((0 : Int) + ((fewP la).length : Int)))).1).length) c122) ((joinP (rowsP rows) [] (batchP (turnP (rowsP rows)) (fewP lb) ((0 : Int) + ((fewP la).length : Int)))).1)) ∧ (Own TokR 4 58 wr2 Mr301 0 (.slice A142 (((joinP (rowsP rows) [] (batchP (turnP (rowsP rows)) (fewP lb) 0)).1).length) c143) (((joinP (rowsP rows) [] (batchP (turnP (rowsP rows)) (fewP lb) 0)).1.take k).map (shift ((fewP la).length : Int)) ++ (joinP (rowsP rows) [] (batchP (turnP (rowsP rows)) (fewP lb) 0)).1.drop k)) ∧ (Own TokR 4 58 wr2 Mr301 0 (.slice A232 (((joinP (rowsP rows) [] (batchP (turnP (rowsP rows)) (fewP la) 0)).1).length) c233) ((joinP (rowsP rows) [] (batchP (turnP (rowsP rows)) (fewP la) 0)).1)) ∧ (Own TokR 4 58 wr2 Mr301 0 (.slice A274 (((joinP (rowsP rows) [] (batchP (turnP (rowsP rows)) (fewP la) 0)).1).length) c275) ((joinP (rowsP rows) [] (batchP (turnP (rowsP rows)) (fewP la) 0)).1)) ∧ (kk ≤ (joinP (rowsP rows) [] (batchP (turnP (rowsP rows)) (fewP la) 0)).1.length) ∧ (ao = lastOut [] ((joinP (rowsP rows) [] (batchP (turnP (rowsP rows)) (fewP la) 0)).1.take kk)) ∧ (SlD IntR 1 wr2 Mr301 Ao co ao) ∧ (ao.length ≤ 9223372036854775807)) _ _ (.cons (t := 7) rfl (.cons (t := 11) rfl (.cons (t := 13) rfl (.cons (t := 15) rfl (.cons (t := 18) rfl (.cons (t := 96) rfl (.cons (t := 97) rfl (.cons (t := 98) rfl (.nil _))))))))) ⟨0, [], none, 0, M270, rfl, rfl, Up.refl hm279, e278, fun _ h => h, hs0280, h313, hM277, h319, h323, h327, h332, (PutR.own hP276), by omega, rfl, SlD.empty (fun _ => rfl), by simp⟩ ?_
    rintro m _ wr2 ⟨kk, ao, Ao, co, Mr301, rfl, rfl, hU302, hE303, hsp305, hsb306, h307, h314, h315, h320, h324, h328, h333, hk2, hlo, hao, haol⟩
    have hm304 := Up.mb hU302
    have hs0334 : Ms M140 Mr301 := fun k h => hsp305 k (hs0281 k h)
    have mem335 : Ms S118 Mr301 := (fun k h => hsp305 k (mem312 k h))
    have mem336 : Ms S271 Mr301 := (fun k h => hsp305 k ((EncR.ms hM277) k h))
    have mem337 : Ms (ob (.slice A81 ((joinP (rowsP rows) [] (batchP (turnP (rowsP rows)) (fewP la) 0)).1).length c82)) Mr301 := (fun k h => hsp305 k (mem318 k h))
    have hlen338 := Own.len h315
    have mem339 : Ms (ob (.slice A121 ((joinP (rowsP rows) [] (batchP (turnP (rowsP rows)) (fewP lb) ((0 : Int) + ((fewP la).length : Int)))).1).length c122)) Mr301 := (fun k h => hsp305 k (mem322 k h))
    have hlen340 := Own.len h320
    have mem341 : Ms (ob (.slice A142 ((joinP (rowsP rows) [] (batchP (turnP (rowsP rows)) (fewP lb) 0)).1).length c143)) Mr301 := (fun k h => hsp305 k (mem326 k h))
    have hlen342 := Own.len h324
    have mem343 : Ms (ob (.slice A232 ((joinP (rowsP rows) [] (batchP (turnP (rowsP rows)) (fewP la) 0)).1).length c233)) Mr301 := (fun k h => hsp305 k (mem331 k h))
    have hlen344 := Own.len h328
    have mem345 : Ms (ob (.slice A274 ((joinP (rowsP rows) [] (batchP (turnP (rowsP rows)) (fewP la) 0)).1).length c275)) Mr301 := (fun k h => hsp305 k ((Own.ms (PutR.own hP276)) k h))
    have hlen346 := Own.len h333
    refine CW.seq ?_
    refine CW.region ?_
    refine WL.lss rfl rfl ?_
    refine WL.nil ?_
    refine CW.seq ?_
    refine CW.condP rfl (fun hc347 => ?_) (fun hc347 => ?_)
    · have hkp : kk < (joinP (rowsP rows) [] (batchP (turnP (rowsP rows)) (fewP la) 0)).1.length := by omega
      refine CW.skip ?_
      refine CW.seq ?_
      refine CW.block ?_
      refine CW.seq ?_
      refine CW.region ?_
      have hlt348 : kk < ((joinP (rowsP rows) [] (batchP (turnP (rowsP rows)) (fewP la) 0)).1).length := by first | omega | (simp only [List.length_append, List.length_set, List.length_drop, List.length_map, List.length_take]; omega)
      obtain ⟨ad349, cs350, hA351, hs352, hat353, hR354⟩ := Own.get h315 hlt348
      obtain ⟨_, hx357, ⟨A355, c356, rfl, hD358⟩, hi359, hi360, hi361⟩ := hR354
      rw [hx357] at hat353
      have hl362 := SlD.lim hD358
      simp only [I64] at hi359 hi360 hi361
      refine WL.idx es55 rfl rfl hA351 (by omega) (by omega) ?_
      refine WL.loadAgg (M := fun _ => False) (cs := [.int .i64 (((joinP (rowsP rows) [] (batchP (turnP (rowsP rows)) (fewP la) 0)).1)[kk].at_), .int .i64 (((joinP (rowsP rows) [] (batchP (turnP (rowsP rows)) (fewP la) 0)).1)[kk].len), .slice A355 (((joinP (rowsP rows) [] (batchP (turnP (rowsP rows)) (fewP la) 0)).1)[kk].out.length) c356, .int .i64 (((joinP (rowsP rows) [] (batchP (turnP (rowsP rows)) (fewP la) 0)).1)[kk].err)]) ag58 rfl hat353 ?_
      refine WL.alloc (cs := [.int .i64 0, .int .i64 0, .slice none 0 0, .int .i64 0]) ti58 rfl (fun g363 w364 hg365 hb366 he367 => ?_)
      obtain ⟨M368, u369, mem370, hsub371, hinv372⟩ := Ext.addVar he367 hm304 hg365 hb366
      have ge373 : ∀ q_, vb g363 q_ → wr2.heap.size ≤ q_ := fun q_ hq_ => by rw [hq_]; exact hg365
      have mem374 := Ms.one mem370
      have e375 := Stp.ext hE303 he367
      have hm376 := Up.mb u369
      have hs0377 : Ms M M368 := fun k h => hsub371 k (hsb306 k h)
      have hs0378 : Ms M140 M368 := fun k h => hsub371 k (hs0334 k h)
      have hs0379 : Ms M270 M368 := fun k h => hsub371 k (hsp305 k h)
      have dj380 := Dj.fresh (T := S118) ge373 mem335 hm304
      have dj381 := Dj.fresh (T := S271) ge373 mem336 hm304
      have dj382 := Dj.fresh (T := (ob (.slice A81 ((joinP (rowsP rows) [] (batchP (turnP (rowsP rows)) (fewP la) 0)).1).length c82))) ge373 mem337 hm304
      have dj383 := Dj.fresh (T := (ob (.slice A121 ((joinP (rowsP rows) [] (batchP (turnP (rowsP rows)) (fewP lb) ((0 : Int) + ((fewP la).length : Int)))).1).length c122))) ge373 mem339 hm304
      have dj384 := Dj.fresh (T := (ob (.slice A142 ((joinP (rowsP rows) [] (batchP (turnP (rowsP rows)) (fewP lb) 0)).1).length c143))) ge373 mem341 hm304
      have dj385 := Dj.fresh (T := (ob (.slice A232 ((joinP (rowsP rows) [] (batchP (turnP (rowsP rows)) (fewP la) 0)).1).length c233))) ge373 mem343 hm304
      have dj386 := Dj.fresh (T := (ob (.slice A274 ((joinP (rowsP rows) [] (batchP (turnP (rowsP rows)) (fewP la) 0)).1).length c275))) ge373 mem345 hm304
      have fr387 := Ge.le ge373 (Stp.size hE303)
      refine WL.storeAll (vs := [.int .i64 (((joinP (rowsP rows) [] (batchP (turnP (rowsP rows)) (fewP la) 0)).1)[kk].at_), .int .i64 (((joinP (rowsP rows) [] (batchP (turnP (rowsP rows)) (fewP la) 0)).1)[kk].len), .slice A355 (((joinP (rowsP rows) [] (batchP (turnP (rowsP rows)) (fewP la) 0)).1)[kk].out.length) c356, .int .i64 (((joinP (rowsP rows) [] (batchP (turnP (rowsP rows)) (fewP la) 0)).1)[kk].err)]) (by rw [ti58]; rfl) rfl rfl (by simp [Value.oneCell']) hb366 rfl (fun w388 hb389 hs390 => ?_)
      have u391 := Stp.upM hs390 hm376 mem374
      have e392 := Stp.wr e375 hs390 (Wr.ofFr NoM fr387)
      have hm393 := Up.mb u391
      refine WL.nil ?_
      refine CW.seq ?_
      refine CW.region ?_
      refine WL.fieldAddr fo58_3 rfl ?_
      refine WL.load sc46 rfl ((Bk.at_ (M := fun _ => False) hb389 (fun h => h)).cell 3 _ rfl) ?_
      refine WL.eql rfl rfl ?_
      refine WL.nil ?_
      refine CW.condP rfl (fun hc394 => ?_) (fun hc394 => ?_)
      · refine CW.region ?_
        refine WL.fieldAddr fo58_2 rfl ?_
        refine WL.load sc29 rfl ((Bk.at_ (M := fun _ => False) hb389 (fun h => h)).cell 2 _ rfl) ?_
        refine WL.assign rfl ?_
        refine WL.nil ?_
        refine CW.region ?_
        refine WL.add rfl rfl (by omega) ?_
        refine WL.move rfl ?_
        refine WL.nil ?_
        have mem395 : Ms S118 M368 := (fun k h => hsub371 k (mem335 k h))
        have h396 := EncR.step h307 he367 (fun _ _ h => h) u369 mem395
        have h397 := EncR.step h396 hs390 (Dj.symm dj380) u391 mem395
        have mem398 : Ms S271 M368 := (fun k h => hsub371 k (mem336 k h))
        have h399 := EncR.step h314 he367 (fun _ _ h => h) u369 mem398
        have h400 := EncR.step h399 hs390 (Dj.symm dj381) u391 mem398
        have h401 := Own.ext h315 he367 u369 hsub371
        have mem402 : Ms (ob (.slice A81 ((joinP (rowsP rows) [] (batchP (turnP (rowsP rows)) (fewP la) 0)).1).length c82)) M368 := (fun k h => hsub371 k (mem337 k h))
        have h403 := Own.step h401 hs390 (Dj.symm dj382) u391 mem402
        have h404 := Own.ext h320 he367 u369 hsub371
        have mem405 : Ms (ob (.slice A121 ((joinP (rowsP rows) [] (batchP (turnP (rowsP rows)) (fewP lb) ((0 : Int) + ((fewP la).length : Int)))).1).length c122)) M368 := (fun k h => hsub371 k (mem339 k h))
        have h406 := Own.step h404 hs390 (Dj.symm dj383) u391 mem405
        have h407 := Own.ext h324 he367 u369 hsub371
        have mem408 : Ms (ob (.slice A142 ((joinP (rowsP rows) [] (batchP (turnP (rowsP rows)) (fewP lb) 0)).1).length c143)) M368 := (fun k h => hsub371 k (mem341 k h))
        have h409 := Own.step h407 hs390 (Dj.symm dj384) u391 mem408
        have h410 := Own.ext h328 he367 u369 hsub371
        have mem411 : Ms (ob (.slice A232 ((joinP (rowsP rows) [] (batchP (turnP (rowsP rows)) (fewP la) 0)).1).length c233)) M368 := (fun k h => hsub371 k (mem343 k h))
        have h412 := Own.step h410 hs390 (Dj.symm dj385) u391 mem411
        have h413 := Own.ext h333 he367 u369 hsub371
        have mem414 : Ms (ob (.slice A274 ((joinP (rowsP rows) [] (batchP (turnP (rowsP rows)) (fewP la) 0)).1).length c275)) M368 := (fun k h => hsub371 k (mem345 k h))
        have h415 := Own.step h413 hs390 (Dj.symm dj386) u391 mem414
        refine Loop.again _ _ ?_ ?_ ⟨kk + 1, (joinP (rowsP rows) [] (batchP (turnP (rowsP rows)) (fewP la) 0)).1[kk].out, A355, c356, M368, rfl, rfl, (Up.trans hU302 (Up.trans u369 u391)), e392, hs0379, hs0377, h397, h400, h403, h406, h409, h412, h415, by omega, by rw [last_take_succ hkp, ← hlo]; exact (if_pos hc394).symm, (hD358.up (Up.trans u369 u391)), by omega⟩
        · omega
        · exact .cons (t := 7) rfl (.cons (t := 11) rfl (.cons (t := 13) rfl (.cons (t := 15) rfl (.cons (t := 18) rfl (.cons (t := 96) rfl (.cons (t := 97) rfl (.cons (t := 98) rfl (.nil _))))))))
      · refine CW.skip ?_
        refine CW.region ?_
        refine WL.add rfl rfl (by omega) ?_
        refine WL.move rfl ?_
        refine WL.nil ?_
        have mem416 : Ms S118 M368 := (fun k h => hsub371 k (mem335 k h))
        have h417 := EncR.step h307 he367 (fun _ _ h => h) u369 mem416
        have h418 := EncR.step h417 hs390 (Dj.symm dj380) u391 mem416
        have mem419 : Ms S271 M368 := (fun k h => hsub371 k (mem336 k h))
        have h420 := EncR.step h314 he367 (fun _ _ h => h) u369 mem419
        have h421 := EncR.step h420 hs390 (Dj.symm dj381) u391 mem419
        have h422 := Own.ext h315 he367 u369 hsub371
        have mem423 : Ms (ob (.slice A81 ((joinP (rowsP rows) [] (batchP (turnP (rowsP rows)) (fewP la) 0)).1).length c82)) M368 := (fun k h => hsub371 k (mem337 k h))
        have h424 := Own.step h422 hs390 (Dj.symm dj382) u391 mem423
        have h425 := Own.ext h320 he367 u369 hsub371
        have mem426 : Ms (ob (.slice A121 ((joinP (rowsP rows) [] (batchP (turnP (rowsP rows)) (fewP lb) ((0 : Int) + ((fewP la).length : Int)))).1).length c122)) M368 := (fun k h => hsub371 k (mem339 k h))
        have h427 := Own.step h425 hs390 (Dj.symm dj383) u391 mem426
        have h428 := Own.ext h324 he367 u369 hsub371
        have mem429 : Ms (ob (.slice A142 ((joinP (rowsP rows) [] (batchP (turnP (rowsP rows)) (fewP lb) 0)).1).length c143)) M368 := (fun k h => hsub371 k (mem341 k h))
        have h430 := Own.step h428 hs390 (Dj.symm dj384) u391 mem429
        have h431 := Own.ext h328 he367 u369 hsub371
        have mem432 : Ms (ob (.slice A232 ((joinP (rowsP rows) [] (batchP (turnP (rowsP rows)) (fewP la) 0)).1).length c233)) M368 := (fun k h => hsub371 k (mem343 k h))
        have h433 := Own.step h431 hs390 (Dj.symm dj385) u391 mem432
        have h434 := Own.ext h333 he367 u369 hsub371
        have mem435 : Ms (ob (.slice A274 ((joinP (rowsP rows) [] (batchP (turnP (rowsP rows)) (fewP la) 0)).1).length c275)) M368 := (fun k h => hsub371 k (mem345 k h))
        have h436 := Own.step h434 hs390 (Dj.symm dj386) u391 mem435
        refine Loop.again _ _ ?_ ?_ ⟨kk + 1, ao, Ao, co, M368, rfl, rfl, (Up.trans hU302 (Up.trans u369 u391)), e392, hs0379, hs0377, h418, h421, h424, h427, h430, h433, h436, by omega, by rw [last_take_succ hkp, ← hlo]; exact (if_neg hc394).symm, (hao.up (Up.trans u369 u391)), by omega⟩
        · omega
        · exact .cons (t := 7) rfl (.cons (t := 11) rfl (.cons (t := 13) rfl (.cons (t := 15) rfl (.cons (t := 18) rfl (.cons (t := 96) rfl (.cons (t := 97) rfl (.cons (t := 98) rfl (.nil _))))))))
    · have hke2 : kk = (joinP (rowsP rows) [] (batchP (turnP (rowsP rows)) (fewP la) 0)).1.length := by omega
      have hae : ao = (joinP (rowsP rows) [] (batchP (turnP (rowsP rows)) (fewP la) 0)).2 := by rw [hlo, hke2, List.take_length, last_join]
      have haol2 : ao.length ≤ 8 := by rw [hae]; exact hahl
      refine CW.exit ?_
      refine CW.seq ?_
      refine CW.region ?_
      refine WL.move rfl ?_
      refine WL.makeInterface Try.underlying61 rfl rfl ?_
      refine WL.move rfl ?_
      have hF437 := all_spec (enc_mach (rows_good rows) ge39) _ _ hm304 (hD63.up (Up.trans (PutR.up hP83) (Up.trans hu100 (Up.trans (PutR.up hP123) (Up.trans (NewR.up hP141) (Up.trans hU155 (Up.trans (NewR.up hP231) (Up.trans u248 (Up.trans u259 (Up.trans (PutR.up hP276) hU302)))))))))) h314 (enc_ok0 (by omega) (by omega) hahl) (by omega)
      rw [all_enc (rows_good rows)] at hF437
      refine WL.call Try.func34 rfl rfl (.cons rfl (.cons rfl (.nil))) (hF437) (fun _ w438 hr439 => ?_)
      obtain ⟨M440, S441, hP442, hM443⟩ := hr439
      have hP446 : PutR wr2 Mr301 S271 w438 M440 S441 _ ((joinP (rowsP rows) (joinP (rowsP rows) [] (batchP (turnP (rowsP rows)) (fewP la) 0)).2 (batchP (turnP (rowsP rows)) (fewP lb) ((0 : Int) + ((fewP la).length : Int)))).1) := hP442
      obtain ⟨A444, c445, rfl⟩ := Own.form hP446.own
      have hM447 : EncO ge39 (rowsP rows) w438 M440 S441 (⟨[], (0 : Int) + ((fewP la).length : Int) + ((fewP lb).length : Int), (joinP (rowsP rows) (joinP (rowsP rows) [] (batchP (turnP (rowsP rows)) (fewP la) 0)).2 (batchP (turnP (rowsP rows)) (fewP lb) ((0 : Int) + ((fewP la).length : Int)))).2⟩ : EncS) := hM443
      have e448 := Stp.wr hE303 (PutR.stp hP446) (Wr.ofFr NoM fr293)
      have hm449 := Up.mb (PutR.up hP446)
      have hs0450 : Ms M M440 := fun k h => (PutR.ms hP446) k (hsb306 k h)
      have hs0451 : Ms M140 M440 := fun k h => (PutR.ms hP446) k (hs0334 k h)
      have hs0452 : Ms M270 M440 := fun k h => (PutR.ms hP446) k (hsp305 k h)
      have dj453 := Dj.grow dj282 (PutR.wr hP446) mem335 hm304
      have dj454 := Dj.grow dj284 (PutR.wr hP446) mem337 hm304
      have dj455 := Dj.grow dj286 (PutR.wr hP446) mem339 hm304
      have dj456 := Dj.grow dj288 (PutR.wr hP446) mem341 hm304
      have dj457 := Dj.grow dj290 (PutR.wr hP446) mem343 hm304
      have dj458 := Dj.grow (Dj.symm (PutR.dj hP276)) (PutR.wr hP446) mem345 hm304
      have fr460 := Ge.grow fr293 (PutR.wr hP446) (Stp.size hE303)
      have ge461 := Ge.grow ge294 (PutR.wr hP446) (Stp.size (Up.stp (Up.trans hu44 (Up.trans u58 (Up.trans u67 (Up.trans (PutR.up hP83) (Up.trans hu100 (Up.trans (PutR.up hP123) (Up.trans (NewR.up hP141) (Up.trans hU155 (Up.trans (NewR.up hP231) (Up.trans u248 (Up.trans u259 (Up.trans (PutR.up hP276) hU302))))))))))))))
      have dj462 := Dj.fresh (T := S118) (PutR.new hP446) mem335 hm304
      have dj463 := Dj.fresh (T := (ob (.slice A81 ((joinP (rowsP rows) [] (batchP (turnP (rowsP rows)) (fewP la) 0)).1).length c82))) (PutR.new hP446) mem337 hm304
      have dj464 := Dj.fresh (T := (ob (.slice A121 ((joinP (rowsP rows) [] (batchP (turnP (rowsP rows)) (fewP lb) ((0 : Int) + ((fewP la).length : Int)))).1).length c122))) (PutR.new hP446) mem339 hm304
      have dj465 := Dj.fresh (T := (ob (.slice A142 ((joinP (rowsP rows) [] (batchP (turnP (rowsP rows)) (fewP lb) 0)).1).length c143))) (PutR.new hP446) mem341 hm304
      have dj466 := Dj.fresh (T := (ob (.slice A232 ((joinP (rowsP rows) [] (batchP (turnP (rowsP rows)) (fewP la) 0)).1).length c233))) (PutR.new hP446) mem343 hm304
      have dj467 := Dj.fresh (T := (ob (.slice A274 ((joinP (rowsP rows) [] (batchP (turnP (rowsP rows)) (fewP la) 0)).1).length c275))) (PutR.new hP446) mem345 hm304
      have fr468 := Ge.le (PutR.new hP446) (Stp.size hE303)
      refine WL.assign rfl ?_
      refine WL.nil ?_
      refine CW.seq ?_
      refine CW.drawn [] (fun w1 w' => Ext w1 w') mixed (fun w469 ed470 hh471 => ?_)
      have u473 := Ext.up ed470 hm449
      have e474 := Stp.ext e448 ed470
      have hm475 := Up.mb u473
      have hcl472 := Stp.refl w469 (fun _ => False)
      refine DW.rF 0 rfl (by kernel_rfl) (fun _ _ _ h => h) (fun w' => Rn.move rfl) ?_
      refine DW.rF 1 rfl (by kernel_rfl) (fun _ _ _ h => h) (fun w' => Rn.len Try.underlying55 rfl) ?_
      refine DW.rF 2 rfl (by kernel_rfl) (fun _ _ _ h => h) (fun w' => Rn.move rfl) ?_
      refine DW.rF 3 rfl (by kernel_rfl) (fun _ _ _ h => h) (fun w' => Rn.len Try.underlying55 rfl) ?_
      refine DW.rF 4 rfl (by kernel_rfl) (fun _ _ _ h => h) (fun w' => Rn.eql rfl rfl) ?_
      refine DW.rF 5 rfl (by kernel_rfl) (fun _ _ _ h => h) (fun w' => Rn.move rfl) ?_
      have hev476 : ((((joinP (rowsP rows) (joinP (rowsP rows) [] (batchP (turnP (rowsP rows)) (fewP la) 0)).2 (batchP (turnP (rowsP rows)) (fewP lb) ((0 : Int) + ((fewP la).length : Int)))).1).length : Int) = (((joinP (rowsP rows) [] (batchP (turnP (rowsP rows)) (fewP lb) ((0 : Int) + ((fewP la).length : Int)))).1).length : Int)) := by omega
      refine DW.gF 6 rfl (by kernel_rfl) (fun _ _ _ h => h) rfl rfl (decide_eq_true hev476) (fun w' => Rn.move rfl) ?_
      refine DW.gF 7 rfl (by kernel_rfl) (fun _ _ _ h => h) rfl rfl (decide_eq_true hev476) (fun w' => Rn.len Try.underlying55 rfl) ?_
      refine DW.gF 8 rfl (by kernel_rfl) (fun _ _ _ h => h) rfl rfl (decide_eq_true hev476) (fun w' => Rn.eql rfl rfl) ?_
      refine DW.gF 9 rfl (by kernel_rfl) (fun _ _ _ h => h) rfl rfl (decide_eq_true hev476) (fun w' => Rn.move rfl) ?_
      by_cases hg477 : (((joinP (rowsP rows) (joinP (rowsP rows) [] (batchP (turnP (rowsP rows)) (fewP la) 0)).2 (batchP (turnP (rowsP rows)) (fewP lb) ((0 : Int) + ((fewP la).length : Int)))).1).length : Int) = 0
      · refine DW.sF 10 rfl (by kernel_rfl) (fun _ _ _ h => h) rfl rfl (decide_eq_true hg477) ?_
        refine DW.sF 11 rfl (by kernel_rfl) (fun _ _ _ h => h) rfl rfl (decide_eq_true hg477) ?_
        refine DW.sF 12 rfl (by kernel_rfl) (fun _ _ _ h => h) rfl rfl (decide_eq_true hg477) ?_
        refine DW.sF 13 rfl (by kernel_rfl) (fun _ _ _ h => h) rfl rfl (decide_eq_true hg477) ?_
        refine DW.sF 14 rfl (by kernel_rfl) (fun _ _ _ h => h) rfl rfl (decide_eq_true hg477) ?_
        refine DW.gF 15 rfl (by kernel_rfl) (fun _ _ _ h => h) rfl rfl (decide_eq_true hev476) (fun w' => Rn.pickT (congrArg (fun b => some (Value.bool b)) (decide_eq_true hg477)) rfl) ?_
        refine DW.gF 16 rfl (by kernel_rfl) (fun _ _ _ h => h) rfl rfl (decide_eq_true hev476) (fun w' => Rn.move rfl) ?_
        refine DW.sF 17 rfl (by kernel_rfl) (fun _ _ _ h => h) rfl rfl rfl ?_
        refine DW.sF 18 rfl (by kernel_rfl) (fun _ _ _ h => h) rfl rfl rfl ?_
        refine DW.sF 19 rfl (by kernel_rfl) (fun _ _ _ h => h) rfl rfl rfl ?_
        refine DW.sF 20 rfl (by kernel_rfl) (fun _ _ _ h => h) rfl rfl rfl ?_
        refine DW.sF 21 rfl (by kernel_rfl) (fun _ _ _ h => h) rfl rfl rfl ?_
        refine DW.sF 22 rfl (by kernel_rfl) (fun _ _ _ h => h) rfl rfl rfl ?_
        refine DW.sF 23 rfl (by kernel_rfl) (fun _ _ _ h => h) rfl rfl rfl ?_
        refine DW.sF 24 rfl (by kernel_rfl) (fun _ _ _ h => h) rfl rfl rfl ?_
        refine DW.sF 25 rfl (by kernel_rfl) (fun _ _ _ h => h) rfl rfl rfl ?_
        refine DW.sF 26 rfl (by kernel_rfl) (fun _ _ _ h => h) rfl rfl rfl ?_
        refine DW.sF 27 rfl (by kernel_rfl) (fun _ _ _ h => h) rfl rfl rfl ?_
        refine DW.sF 28 rfl (by kernel_rfl) (fun _ _ _ h => h) rfl rfl rfl ?_
        refine DW.sF 29 rfl (by kernel_rfl) (fun _ _ _ h => h) rfl rfl rfl ?_
        refine DW.gF 30 rfl (by kernel_rfl) (fun _ _ _ h => h) rfl rfl (decide_eq_true hev476) (fun w' => Rn.pickT rfl rfl) ?_
        refine DW.rF 31 rfl (by kernel_rfl) (fun _ _ _ h => h) (fun w' => Rn.pickT (congrArg (fun b => some (Value.bool b)) (decide_eq_true hev476)) rfl) ?_
        refine DW.rF 32 rfl (by kernel_rfl) (fun _ _ _ h => h) (fun w' => Rn.assign rfl) ?_
        refine DW.done (by kernel_rfl) (fun _ => hcl472) ?_
        refine CW.ret ?_
        refine Ret.one rfl rfl ?_
        exact ⟨rfl, e474⟩
      · have hbpos : 0 < (batchP (turnP (rowsP rows)) (fewP lb) ((0 : Int) + ((fewP la).length : Int))).length := by omega
        obtain ⟨b0, hb0⟩ : ∃ b, b = (batchP (turnP (rowsP rows)) (fewP lb) ((0 : Int) + ((fewP la).length : Int)))[0] := ⟨_, rfl⟩
        obtain ⟨q0, hq0e⟩ : ∃ q, q = joinTok (rowsP rows) [] b0 := ⟨_, rfl⟩
        obtain ⟨r0, hr0e⟩ : ∃ r, r = joinTok (rowsP rows) (joinP (rowsP rows) [] (batchP (turnP (rowsP rows)) (fewP la) 0)).2 b0 := ⟨_, rfl⟩
        have hq0 : ∀ h_, (joinP (rowsP rows) [] (batchP (turnP (rowsP rows)) (fewP lb) ((0 : Int) + ((fewP la).length : Int)))).1[0]'h_ = q0 := fun h_ => by rw [hq0e, hb0]; exact join_head _ _ hbpos h_
        have hr0 : ∀ h_, (joinP (rowsP rows) (joinP (rowsP rows) [] (batchP (turnP (rowsP rows)) (fewP la) 0)).2 (batchP (turnP (rowsP rows)) (fewP lb) ((0 : Int) + ((fewP la).length : Int)))).1[0]'h_ = r0 := fun h_ => by rw [hr0e, hb0]; exact join_head _ _ hbpos h_
        have hqb : q0 = b0 := by rw [hq0e, joinTok_nil]
        have hq8 : q0.out.length ≤ 8 := by rw [hqb, hb0]; exact hbyo _ (List.getElem_mem hbpos)
        refine DW.gF 10 rfl (by kernel_rfl) (fun _ _ _ h => h) rfl rfl (decide_eq_false hg477) (fun w' => Rn.move rfl) ?_
        have hlt478 : 0 < ((joinP (rowsP rows) [] (batchP (turnP (rowsP rows)) (fewP lb) ((0 : Int) + ((fewP la).length : Int)))).1).length := by first | omega | (simp only [List.length_append, List.length_set, List.length_drop, List.length_map, List.length_take]; omega)
        have mem485 : Ms (ob (.slice A121 ((joinP (rowsP rows) [] (batchP (turnP (rowsP rows)) (fewP lb) ((0 : Int) + ((fewP la).length : Int)))).1).length c122)) M440 := (fun k h => (PutR.ms hP446) k (mem339 k h))
        have h486 := Own.step h320 (PutR.stp hP446) (Dj.symm dj286) (PutR.up hP446) mem485
        have h487 := Own.ext h486 ed470 u473 (fun _ h => h)
        obtain ⟨ad479, cs480, hA481, hs482, hat483, hR484⟩ := Own.get h487 hlt478
        rw [show ((joinP (rowsP rows) [] (batchP (turnP (rowsP rows)) (fewP lb) ((0 : Int) + ((fewP la).length : Int)))).1)[0] = q0 from hq0 _] at hR484
        obtain ⟨_, hx490, ⟨A488, c489, rfl, hD491⟩, hi492, hi493, hi494⟩ := hR484
        rw [hx490] at hat483
        have hl495 := SlD.lim hD491
        simp only [I64] at hi492 hi493 hi494
        refine DW.gF 11 rfl (by kernel_rfl) (fun _ _ _ h => h) rfl rfl (decide_eq_false hg477) (fun w' => Rn.idx es55 rfl rfl hA481 (by omega) (by omega)) ?_
        refine DW.gF 12 rfl (by kernel_rfl) (fun _ _ _ h => h) rfl rfl (decide_eq_false hg477) (fun w' => Rn.fieldAddr fo58_3 rfl) ?_
        refine DW.gT 13 rfl (by kernel_rfl) (fun _ _ _ h => h) rfl rfl (decide_eq_false hg477) (fun w' hC => Rn.load sc46 rfl (At.cell (At.up hat483 (Ext.up hC (MB.none _))) 3 _ rfl)) ?_
        refine DW.gF 14 rfl (by kernel_rfl) (fun _ _ _ h => h) rfl rfl (decide_eq_false hg477) (fun w' => Rn.neq rfl rfl) ?_
        refine DW.gF 15 rfl (by kernel_rfl) (fun _ _ _ h => h) rfl rfl (decide_eq_true hev476) (fun w' => Rn.pickF (congrArg (fun b => some (Value.bool b)) (decide_eq_false hg477)) rfl) ?_
        refine DW.gF 16 rfl (by kernel_rfl) (fun _ _ _ h => h) rfl rfl (decide_eq_true hev476) (fun w' => Rn.move rfl) ?_
        by_cases hg496 : q0.err ≠ 0
        · refine DW.sF 17 rfl (by kernel_rfl) (fun _ _ _ h => h) rfl rfl (decide_eq_true hg496) ?_
          refine DW.sF 18 rfl (by kernel_rfl) (fun _ _ _ h => h) rfl rfl (decide_eq_true hg496) ?_
          refine DW.sF 19 rfl (by kernel_rfl) (fun _ _ _ h => h) rfl rfl (decide_eq_true hg496) ?_
          refine DW.sF 20 rfl (by kernel_rfl) (fun _ _ _ h => h) rfl rfl (decide_eq_true hg496) ?_
          refine DW.sF 21 rfl (by kernel_rfl) (fun _ _ _ h => h) rfl rfl (decide_eq_true hg496) ?_
          refine DW.sF 22 rfl (by kernel_rfl) (fun _ _ _ h => h) rfl rfl (decide_eq_true hg496) ?_
          refine DW.sF 23 rfl (by kernel_rfl) (fun _ _ _ h => h) rfl rfl (decide_eq_true hg496) ?_
          refine DW.sF 24 rfl (by kernel_rfl) (fun _ _ _ h => h) rfl rfl (decide_eq_true hg496) ?_
          refine DW.sF 25 rfl (by kernel_rfl) (fun _ _ _ h => h) rfl rfl (decide_eq_true hg496) ?_
          refine DW.sF 26 rfl (by kernel_rfl) (fun _ _ _ h => h) rfl rfl (decide_eq_true hg496) ?_
          refine DW.sF 27 rfl (by kernel_rfl) (fun _ _ _ h => h) rfl rfl (decide_eq_true hg496) ?_
          refine DW.sF 28 rfl (by kernel_rfl) (fun _ _ _ h => h) rfl rfl (decide_eq_true hg496) ?_
          refine DW.sF 29 rfl (by kernel_rfl) (fun _ _ _ h => h) rfl rfl (decide_eq_true hg496) ?_
          refine DW.gF 30 rfl (by kernel_rfl) (fun _ _ _ h => h) rfl rfl (decide_eq_true hev476) (fun w' => Rn.pickT (congrArg (fun b => some (Value.bool b)) (decide_eq_true hg496)) rfl) ?_
          refine DW.rF 31 rfl (by kernel_rfl) (fun _ _ _ h => h) (fun w' => Rn.pickT (congrArg (fun b => some (Value.bool b)) (decide_eq_true hev476)) rfl) ?_
          refine DW.rF 32 rfl (by kernel_rfl) (fun _ _ _ h => h) (fun w' => Rn.assign rfl) ?_
          refine DW.done (by kernel_rfl) (fun _ => hcl472) ?_
          refine CW.ret ?_
          refine Ret.one rfl rfl ?_
          exact ⟨rfl, e474⟩
        · refine DW.gF 17 rfl (by kernel_rfl) (fun _ _ _ h => h) rfl rfl (decide_eq_false hg496) (fun w' => Rn.move rfl) ?_
          have hlt497 : 0 < ((joinP (rowsP rows) (joinP (rowsP rows) [] (batchP (turnP (rowsP rows)) (fewP la) 0)).2 (batchP (turnP (rowsP rows)) (fewP lb) ((0 : Int) + ((fewP la).length : Int)))).1).length := by first | omega | (simp only [List.length_append, List.length_set, List.length_drop, List.length_map, List.length_take]; omega)
          have h504 := Own.ext (PutR.own hP446) ed470 u473 (fun _ h => h)
          obtain ⟨ad498, cs499, hA500, hs501, hat502, hR503⟩ := Own.get h504 hlt497
          rw [show ((joinP (rowsP rows) (joinP (rowsP rows) [] (batchP (turnP (rowsP rows)) (fewP la) 0)).2 (batchP (turnP (rowsP rows)) (fewP lb) ((0 : Int) + ((fewP la).length : Int)))).1)[0] = r0 from hr0 _] at hR503
          obtain ⟨_, hx507, ⟨A505, c506, rfl, hD508⟩, hi509, hi510, hi511⟩ := hR503
          rw [hx507] at hat502
          have hl512 := SlD.lim hD508
          simp only [I64] at hi509 hi510 hi511
          refine DW.gF 18 rfl (by kernel_rfl) (fun _ _ _ h => h) rfl rfl (decide_eq_false hg496) (fun w' => Rn.idx es55 rfl rfl hA500 (by omega) (by omega)) ?_
          refine DW.gF 19 rfl (by kernel_rfl) (fun _ _ _ h => h) rfl rfl (decide_eq_false hg496) (fun w' => Rn.fieldAddr fo58_3 rfl) ?_
          refine DW.gT 20 rfl (by kernel_rfl) (fun _ _ _ h => h) rfl rfl (decide_eq_false hg496) (fun w' hC => Rn.load sc46 rfl (At.cell (At.up hat502 (Ext.up hC (MB.none _))) 3 _ rfl)) ?_
          refine DW.gF 21 rfl (by kernel_rfl) (fun _ _ _ h => h) rfl rfl (decide_eq_false hg496) (fun w' => Rn.neq rfl rfl) ?_
          refine DW.gF 22 rfl (by kernel_rfl) (fun _ _ _ h => h) rfl rfl (decide_eq_false hg496) (fun w' => Rn.move rfl) ?_
          refine DW.gF 23 rfl (by kernel_rfl) (fun _ _ _ h => h) rfl rfl (decide_eq_false hg496) (fun w' => Rn.move rfl) ?_
          refine DW.gF 24 rfl (by kernel_rfl) (fun _ _ _ h => h) rfl rfl (decide_eq_false hg496) (fun w' => Rn.move rfl) ?_
          have hlt513 : 0 < ((joinP (rowsP rows) [] (batchP (turnP (rowsP rows)) (fewP lb) ((0 : Int) + ((fewP la).length : Int)))).1).length := by first | omega | (simp only [List.length_append, List.length_set, List.length_drop, List.length_map, List.length_take]; omega)
          obtain ⟨ad514, cs515, hA516, hs517, hat518, hR519⟩ := Own.get h487 hlt513
          rw [show ((joinP (rowsP rows) [] (batchP (turnP (rowsP rows)) (fewP lb) ((0 : Int) + ((fewP la).length : Int)))).1)[0] = q0 from hq0 _] at hR519
          obtain ⟨_, hx522, ⟨A520, c521, rfl, hD523⟩, hi524, hi525, hi526⟩ := hR519
          rw [hx522] at hat518
          have hl527 := SlD.lim hD523
          simp only [I64] at hi524 hi525 hi526
          refine DW.gF 25 rfl (by kernel_rfl) (fun _ _ _ h => h) rfl rfl (decide_eq_false hg496) (fun w' => Rn.idx es55 rfl rfl hA516 (by omega) (by omega)) ?_
          refine DW.gF 26 rfl (by kernel_rfl) (fun _ _ _ h => h) rfl rfl (decide_eq_false hg496) (fun w' => Rn.fieldAddr fo58_2 rfl) ?_
          refine DW.gT 27 rfl (by kernel_rfl) (fun _ _ _ h => h) rfl rfl (decide_eq_false hg496) (fun w' hC => Rn.load sc29 rfl (At.cell (At.up hat518 (Ext.up hC (MB.none _))) 2 _ rfl)) ?_
          refine DW.only 28 (by kernel_rfl) rfl (fun _ => hcl472) ?_
          refine WL.gtake rfl rfl (decide_eq_false hg496) ?_
          refine WL.call Try.func38 rfl rfl (.cons rfl (.cons rfl (.cons rfl (.nil)))) (lawJoins_spec _ _ hm475 (hD9.up (Up.trans u19 (Up.trans hu30 (Up.trans hu44 (Up.trans u58 (Up.trans u67 (Up.trans (PutR.up hP83) (Up.trans hu100 (Up.trans (PutR.up hP123) (Up.trans (NewR.up hP141) (Up.trans hU155 (Up.trans (NewR.up hP231) (Up.trans u248 (Up.trans u259 (Up.trans (PutR.up hP276) (Up.trans hU302 (Up.trans (PutR.up hP446) u473))))))))))))))))) (hao.up (Up.trans (PutR.up hP446) u473)) hD523 (rows_good rows).right (by omega) (by omega)) (fun _ w528 hr529 => ?_)
          obtain ⟨rfl, he530⟩ := hr529
          have u531 := Ext.up he530 hm475
          have e532 := Stp.ext e474 he530
          have hm533 := Up.mb u531
          have hcl534 := Stp.ext hcl472 he530
          refine WL.nil ?_
          refine DW.gF 29 rfl (by kernel_rfl) (fun _ _ _ h => h) rfl rfl (decide_eq_false hg496) (fun w' => Rn.beq rfl rfl Try.underlying4) ?_
          refine DW.gF 30 rfl (by kernel_rfl) (fun _ _ _ h => h) rfl rfl (decide_eq_true hev476) (fun w' => Rn.pickF (congrArg (fun b => some (Value.bool b)) (decide_eq_false hg496)) rfl) ?_
          refine DW.rF 31 rfl (by kernel_rfl) (fun _ _ _ h => h) (fun w' => Rn.pickT (congrArg (fun b => some (Value.bool b)) (decide_eq_true hev476)) rfl) ?_
          refine DW.rF 32 rfl (by kernel_rfl) (fun _ _ _ h => h) (fun w' => Rn.assign rfl) ?_
          refine DW.done (by kernel_rfl) (fun _ => hcl534) ?_
          refine CW.ret ?_
          refine Ret.one rfl rfl ?_
          refine ⟨congrArg Value.bool ?_, e532⟩
          first
          | rfl
          | (have hqz : b0.err = 0 := by rw [← hqb]; omega
             have hj := joinTok_err (rowsP rows) (joinP (rowsP rows) [] (batchP (turnP (rowsP rows)) (fewP la) 0)).2 hqz
             rw [← hr0e] at hj
             rw [hj, hae, hqb]; simp)
          | simp_all
end Go.Proofs.Ytgbajkdomcmblaa
