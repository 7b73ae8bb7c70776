/- The law MachineBoth answers true: a walk. -/
import Derived.Test.YtgbajkdomcmblaaMachX
namespace Go.Proofs.Ytgbajkdomcmblaa
open Go Go.RowKit Vc
set_option linter.unusedVariables false
set_option linter.unusedSimpArgs false
private theorem mixed : Try.prog.follows .mixedOrders = true := by kernel_rfl
private theorem fo58_2 : fieldOff Try.prog 58 2 = some 2 := by kernel_rfl
private theorem fo58_3 : fieldOff Try.prog 58 3 = some 3 := by kernel_rfl
private theorem es29 : elemSize Try.prog 29 = some 1 := by kernel_rfl
private theorem es55 : elemSize Try.prog 55 = some 4 := by kernel_rfl
private theorem sc3 : scalar Try.prog 3 = true := by kernel_rfl
private theorem sc29 : scalar Try.prog 29 = true := by kernel_rfl
private theorem sc46 : scalar Try.prog 46 = true := by kernel_rfl
private theorem ag58 : aggSize Try.prog 58 = some 4 := by kernel_rfl
private theorem ti3 : tinfo Try.prog 3 = some (some (.int .i64 0), 1, 8) := by kernel_rfl
private theorem ti58 : tinfo Try.prog 58 = some (some (.agg #[.int .i64 0, .int .i64 0, .slice none 0 0, .int .i64 0]), 4, 48) := by kernel_rfl
theorem outs_len {n : Nat} : ∀ {ts : List PTok}, (∀ x ∈ ts, x.out.length ≤ n) → (outs ts).length ≤ n * ts.length
  | [], _ => by simp [outs]
  | x :: l, h => by
    have h1 := outs_len (ts := l) fun y hy => h y (by simp [hy])
    have h2 := h x (by simp)
    have h3 : outs (x :: l) = x.out ++ outs l := by simp [outs]
    rw [h3, List.length_append, List.length_cons, Nat.mul_add]
    omega
theorem outs_take_succ {ts : List PTok} {k : Nat} (hk : k < ts.length) : outs (ts.take (k + 1)) = outs (ts.take k) ++ ts[k].out := by
  rw [List.take_succ_eq_append_getElem hk, outs_append]
  simp [outs]
theorem outs_step {a b : List Int} {j : Nat} (hj : j < b.length) : a ++ b.take (j + 1) = (a ++ b.take j) ++ [b[j]] := by
  rw [List.take_succ_eq_append_getElem hj, List.append_assoc]
theorem err_next {ts : List PTok} {i : Nat} (hi : i < ts.length) (h : ∀ x ∈ ts.take i, x.err = 0) (he : ts[i].err = 0) : ∀ x ∈ ts.take (i + 1), x.err = 0 := by
  intro x hx
  rw [List.take_succ_eq_append_getElem hi] at hx
  rcases List.mem_append.1 hx with hx | hx
  · exact h x hx
  · rw [List.mem_singleton.1 hx]; exact he
theorem join_outs (rs : List PRule) (n : Nat) : ∀ (l : List PTok) (ah : List Int), (∀ x ∈ l, x.out.length ≤ n) → ∀ x ∈ (joinP rs ah l).1, x.out.length ≤ n
  | [], _, _ => by simp [joinP]
  | y :: l, ah, h => by
    intro x hx
    rcases List.mem_cons.1 hx with rfl | hx
    · have := h y (by simp)
      unfold joinTok; split
      · simp
      · exact this
    · exact join_outs rs n l _ (fun z hz => h z (by simp [hz])) x hx
theorem run_pos {rs : List PRule} (hr : RightR rs) : ∀ (us : List Int) (s : List Int × Int), s.2 ≤ (runP (matchPut rs) us s).2.2
  | [], s => by simp [runP]
  | u :: us, s => by
    have h1 := run_pos hr us (matchPut rs s u).2
    obtain ⟨_, _, h2, h3⟩ := match_facts hr s u
    have h4 := lens_nonneg _ h3
    simp only [runP]
    omega
theorem run_facts {rs : List PRule} (hg : GoodR rs) {us : List Int} {T : List PTok} {s : List Int × Int} (h : runP (matchPut rs) us ([], 0) = (T, s)) : 0 ≤ s.2 ∧ s.2 + s.1.length = us.length ∧ (outs T).length ≤ 8 * us.length := by
  obtain ⟨h1, h2⟩ := run_match hg.right us ([], 0)
  have h3 := run_pos hg.right us ([], 0)
  obtain ⟨h4, h5⟩ := batch_facts hg us 0
  rw [h] at h1 h2 h3
  simp only [List.nil_append, List.length_nil] at h1 h2 h3
  rw [h1] at h4 h5
  have h6 := outs_len (ts := T) fun x hx => h5 x (by simp [hx])
  simp only [List.length_append] at h4
  refine ⟨h3, by omega, ?_⟩
  have := Nat.mul_le_mul_left 8 (show T.length ≤ us.length by omega)
  omega
theorem put_outs {rs : List PRule} (hg : GoodR rs) (s : List Int × Int) (u : Int) (h0 : 0 ≤ s.2) (h : s.2 + s.1.length ≤ 1000000) : (matchPut rs s u).1.length ≤ 1000000000 ∧ ∀ x ∈ (matchPut rs s u).1, x.out.length ≤ 8 :=
  ⟨(matchOk.put (n := 0) hg.right ⟨h0, by omega⟩).2, EncR.take_outs hg false _ _ _ (Nat.le_refl _)⟩
theorem fin_facts {rs : List PRule} (hg : GoodR rs) (s : List Int × Int) : (matchFin rs s).1.length ≤ s.1.length ∧ ∀ x ∈ (matchFin rs s).1, x.out.length ≤ 8 :=
  ⟨(take_wait hg.right true _ s.1 s.2 (Nat.le_refl _)).2.2.2.2, EncR.take_outs hg true _ _ _ (Nat.le_refl _)⟩

theorem both_walk (w : World) (M : MS) (hm : MB w M) {Ap1 : Option Addr} {cp1 : Nat} {rows : List PRow} (h1 : SlD RowR 5 w M Ap1 cp1 rows) {Ap2 : Option Addr} {cp2 : Nat} {l : List Int} (h2 : SlD ByteR 1 w M Ap2 cp2 l) :
    Fc Try.prog 10 #[.slice Ap1 rows.length cp1, .slice Ap2 l.length cp2] w fun v w' => v = .bool true ∧ Ext w w' := by
  have e0 := Stp.refl w (NoM : MS)
  have hs00 : Ms M M := fun _ h => h
  have hlim := h1.lim
  have hlim2 := h2.lim
  have hfl := few_len l
  obtain ⟨hbl, hbo⟩ := batch_facts (rows_good rows).turn (fewP l) 0
  have hlp := join_len (rowsP rows) (batchP (turnP (rowsP rows)) (fewP l) 0) []
  have hpo := join_outs (rowsP rows) 8 (batchP (turnP (rowsP rows)) (fewP l) 0) [] hbo
  have hrg := rows_good rows
  refine Fc.enter (n := 93) [(0, .slice Ap1 rows.length cp1), (1, .slice Ap2 l.length cp2)] Try.func10 rfl rfl (Nat.le_of_ble_eq_true rfl) (.cons rfl (.cons rfl (.nil _))) ?_
  refine CW.seq ?_
  refine CW.region ?_
  refine WL.assign rfl ?_
  refine WL.nil ?_
  refine CW.seq ?_
  refine CW.seq ?_
  refine CW.region ?_
  refine WL.call Try.func24 rfl rfl (.nil) (awake_spec _ _ hm) (fun _ w1 hr2 => ?_)
  obtain ⟨rfl, he3⟩ := hr2
  have u4 := Ext.up he3 hm
  have e5 := Stp.ext e0 he3
  have hm6 := Up.mb u4
  refine WL.not_ rfl ?_
  refine WL.nil ?_
  refine CW.condF rfl ?_
  refine CW.skip ?_
  refine CW.seq ?_
  refine CW.region ?_
  refine WL.move rfl ?_
  refine WL.call Try.func26 rfl rfl (.cons rfl (.nil)) (Table_spec _ _ hm6 (h1.up u4)) (fun _ w10 hr11 => ?_)
  obtain ⟨⟨A7, c8, rfl, hD9⟩, he12⟩ := hr11
  have u13 := Ext.up he12 hm6
  have e14 := Stp.ext e5 he12
  have hm15 := Up.mb u13
  change SlD RuleR 2 _ _ _ _ (rowsP rows) at hD9
  refine WL.call Try.func25 rfl rfl (.cons rfl (.nil)) (tableOf_spec _ _ hm15 hD9 (rows_good rows) (rows_closed rows)) (fun _ w16 hr17 => ?_)
  obtain ⟨⟨gt, rfl, hT⟩, he18⟩ := hr17
  have u19 := Ext.up he18 hm15
  have e20 := Stp.ext e14 he18
  have hm21 := Up.mb u19
  refine WL.move rfl ?_
  refine WL.extract rfl rfl ?_
  refine WL.extract rfl rfl ?_
  refine WL.assign rfl ?_
  refine WL.assign rfl ?_
  refine WL.nil ?_
  refine CW.seq ?_
  refine CW.seq ?_
  refine CW.region ?_
  refine WL.move rfl ?_
  refine WL.rn (Rn.pnil Try.underlying45 rfl) ?_
  refine WL.move rfl ?_
  refine WL.gtake rfl rfl rfl ?_
  refine WL.move rfl ?_
  refine WL.gtake rfl rfl rfl ?_
  refine WL.neq rfl rfl ?_
  refine WL.pickF rfl rfl ?_
  refine WL.nil ?_
  have hev22 : ¬ ((0 : Int) ≠ 0) := by decide
  refine CW.condP rfl (fun hn => absurd hn hev22) (fun _ => ?_)
  refine CW.skip ?_
  refine CW.seq ?_
  refine CW.region ?_
  refine WL.move rfl ?_
  refine WL.call Try.func27 rfl rfl (.cons rfl (.nil)) (decode_spec _ _ hm21 hT) (fun _ w23 hr24 => ?_)
  obtain ⟨gd25, rfl, M26, S27, hD28, hnw29, hu30, hms31, he32⟩ := hr24
  have e33 := Stp.ext e20 he32
  have hm34 := Up.mb hu30
  have hs035 : Ms M M26 := fun k h => hms31 k (hs00 k h)
  have fr36 := Ge.le hnw29 (Stp.size e20)
  refine WL.move rfl ?_
  refine WL.call Try.func29 rfl rfl (.cons rfl (.nil)) (encode_spec _ _ hm34 (hT.up hu30)) (fun _ w37 hr38 => ?_)
  obtain ⟨ge39, rfl, M40, S41, hE42, hnw43, hu44, hms45, he46⟩ := hr38
  have e47 := Stp.ext e33 he46
  have hm48 := Up.mb hu44
  have hs049 : Ms M M40 := fun k h => hms45 k (hs035 k h)
  have dj50 := Dj.fresh (T := S27) hnw43 (DecO.ms hD28) hm34
  have fr51 := Ge.le hnw43 (Stp.size e33)
  refine WL.assign rfl ?_
  refine WL.assign rfl ?_
  refine WL.nil ?_
  refine CW.seq ?_
  refine CW.seq ?_
  refine CW.region ?_
  refine WL.move rfl ?_
  refine WL.rn (Rn.inil Try.underlying52 rfl) ?_
  refine WL.move rfl ?_
  refine WL.gtake rfl rfl rfl ?_
  refine WL.move rfl ?_
  refine WL.gtake rfl rfl rfl ?_
  refine WL.rn (Rn.pnil Try.underlying61 rfl) ?_
  refine WL.pickF rfl rfl ?_
  refine WL.nil ?_
  refine CW.condF rfl ?_
  refine CW.skip ?_
  refine CW.seq ?_
  refine CW.region ?_
  refine WL.assign rfl ?_
  refine WL.nil ?_
  refine CW.seq ?_
  refine CW.seq ?_
  refine CW.region ?_
  refine WL.move rfl ?_
  refine WL.makeInterface Try.underlying61 rfl rfl ?_
  refine WL.move rfl ?_
  refine WL.call Try.func28 rfl rfl (.cons rfl (.nil)) (few_spec _ _ hm48 (h2.up (Up.trans u4 (Up.trans u13 (Up.trans u19 (Up.trans hu30 hu44)))))) (fun _ w55 hr56 => ?_)
  obtain ⟨⟨A52, c53, rfl, hD54⟩, he57⟩ := hr56
  have u58 := Ext.up he57 hm48
  have e59 := Stp.ext e47 he57
  have hm60 := Up.mb u58
  have mem62 : Ms S41 M40 := (EncR.ms hE42)
  have h63 := EncR.step hE42 he57 (fun _ _ h => h) u58 mem62
  have hF61 := all_spec (enc_mach (rows_good rows) ge39) _ _ hm60 hD54 h63 (enc_ok0 (by omega) (by omega) (by simp)) (by omega)
  rw [all_enc (rows_good rows)] at hF61
  refine WL.call Try.func34 rfl rfl (.cons rfl (.cons rfl (.nil))) (hF61) (fun _ w64 hr65 => ?_)
  obtain ⟨M66, S67, hP68, hM69⟩ := hr65
  have hP72 : PutR w55 M40 S41 w64 M66 S67 _ ((joinP (rowsP rows) [] (batchP (turnP (rowsP rows)) (fewP l) 0)).1) := hP68
  obtain ⟨A70, c71, rfl⟩ := Own.form hP72.own
  have hM73 : EncO ge39 (rowsP rows) w64 M66 S67 (⟨[], (0 : Int) + ((fewP l).length : Int), (joinP (rowsP rows) [] (batchP (turnP (rowsP rows)) (fewP l) 0)).2⟩ : EncS) := hM69
  have e74 := Stp.wr e59 (PutR.stp hP72) (Wr.ofFr NoM fr51)
  have hm75 := Up.mb (PutR.up hP72)
  have hs076 : Ms M M66 := fun k h => (PutR.ms hP72) k (hs049 k h)
  have mem78 : Ms S27 M40 := (fun k h => hms45 k ((DecO.ms hD28) k h))
  have dj77 := Dj.grow dj50 (PutR.wr hP72) mem78 hm60
  have fr80 := Ge.grow fr51 (PutR.wr hP72) (Stp.size e59)
  have ge81 := Ge.grow hnw43 (PutR.wr hP72) (Stp.size (Up.stp (Up.trans hu44 u58)))
  have dj82 := Dj.fresh (T := S27) (PutR.new hP72) mem78 hm60
  have fr83 := Ge.le (PutR.new hP72) (Stp.size e59)
  refine WL.len Try.underlying55 rfl ?_
  refine WL.move rfl ?_
  refine WL.nil ?_
  refine CW.block ?_
  have hO84 : Own IntR 1 3 w64 M66 0 (.slice none 0 0) [] := Own.nil
  have dj85 : Dj (ob (.slice none 0 0)) S27 := Dj.nil _
  have dj86 : Dj (ob (.slice none 0 0)) (ob (.slice A70 ((joinP (rowsP rows) [] (batchP (turnP (rowsP rows)) (fewP l) 0)).1).length c71)) := Dj.nil _
  have mem94 : Ms S27 M40 := (fun k h => hms45 k ((DecO.ms hD28) k h))
  have h95 := DecO.step hD28 he46 (fun _ _ h => h) hu44 mem94
  have h96 := DecO.step h95 he57 (fun _ _ h => h) u58 mem78
  have mem97 : Ms S27 M66 := (fun k h => (PutR.ms hP72) k (mem78 k h))
  have h98 := DecO.step h96 (PutR.stp hP72) (Dj.symm dj50) (PutR.up hP72) mem97
  refine CW.loop (fun m σ wr0 => ∃ i : Nat, ∃ s1 : List Int × Int, ∃ T1 : List PTok, ∃ Sg : MS, ∃ ou : List Int, ∃ Mr87 : MS, ∃ A101 : Option Addr, ∃ n102 : Nat, ∃ c103 : Nat, m = (joinP (rowsP rows) [] (batchP (turnP (rowsP rows)) (fewP l) 0)).1.length - i ∧ σ = [(1, .slice Ap2 l.length cp2), (7, .iface 109 (.pointer (some ⟨gd25, 0, none⟩))), (9, .slice A101 n102 c103), (46, .slice A70 (((joinP (rowsP rows) [] (batchP (turnP (rowsP rows)) (fewP l) 0)).1).length) c71), (47, .int .i64 (((joinP (rowsP rows) [] (batchP (turnP (rowsP rows)) (fewP l) 0)).1).length : Int)), (48, .int .i64 (i : Int))] ∧ (Up w64 M66 wr0 Mr87) ∧ (Stp w wr0 NoM) ∧ (Ms M66 Mr87) ∧ (Ms M Mr87) ∧ (DecO gd25 (rowsP rows) wr0 Mr87 Sg s1) ∧ (Own TokR 4 58 wr0 Mr87 0 (.slice A70 (((joinP (rowsP rows) [] (batchP (turnP (rowsP rows)) (fewP l) 0)).1).length) c71) ((joinP (rowsP rows) [] (batchP (turnP (rowsP rows)) (fewP l) 0)).1)) ∧ (Own IntR 1 3 wr0 Mr87 0 (.slice A101 n102 c103) (ou)) ∧ (Ms (Sg) Mr87) ∧ (∀ q_, (Sg) q_ → w.heap.size ≤ q_) ∧ (Dj (Sg) (ob (.slice A70 ((joinP (rowsP rows) [] (batchP (turnP (rowsP rows)) (fewP l) 0)).1).length c71))) ∧ (Dj (Sg) (ob (.slice A101 n102 c103))) ∧ (Ms (ob (.slice A101 n102 c103)) Mr87) ∧ (∀ q_, (ob (.slice A101 n102 c103)) q_ → w.heap.size ≤ q_) ∧ (Dj (ob (.slice A101 n102 c103)) (ob (.slice A70 ((joinP (rowsP rows) [] (batchP (turnP (rowsP rows)) (fewP l) 0)).1).length c71))) ∧ (i ≤ (joinP (rowsP rows) [] (batchP (turnP (rowsP rows)) (fewP l) 0)).1.length) ∧ (runP (matchPut (rowsP rows)) (outs ((joinP (rowsP rows) [] (batchP (turnP (rowsP rows)) (fewP l) 0)).1.take i)) ([], 0) = (T1, s1)) ∧ (ou = outs T1) ∧ (∀ x ∈ (joinP (rowsP rows) [] (batchP (turnP (rowsP rows)) (fewP l) 0)).1.take i, x.err = 0)) _ _ (.cons (t := 1) rfl (.cons (t := 7) rfl (.cons (t := 9) rfl (.cons (t := 46) rfl (.cons (t := 47) rfl (.cons (t := 48) rfl (.nil _))))))) ⟨0, ([], 0), [], S27, [], M66, none, 0, 0, rfl, rfl, Up.refl hm75, e74, fun _ h => h, hs076, h98, (PutR.own hP72), hO84, mem97, fr36, (Dj.symm dj82), (Dj.symm dj85), (Ms.nil M66), (Fr.nil w.heap.size), dj86, by omega, rfl, rfl, by simp⟩ ?_
  rintro m _ wr0 ⟨i, s1, T1, Sg, ou, Mr87, A101, n102, c103, rfl, rfl, hU88, hE89, hsp91, hsb92, h93, h99, h100, mem104, wr105, dj106, dj107, mem108, wr109, dj110, hi, hr1, hou, her⟩
  have hm90 := Up.mb hU88
  have mem111 : Ms (ob (.slice A70 ((joinP (rowsP rows) [] (batchP (turnP (rowsP rows)) (fewP l) 0)).1).length c71)) Mr87 := (fun k h => hsp91 k ((Own.ms (PutR.own hP72)) k h))
  have hlen112 := Own.len h99
  obtain rfl := Own.n h100
  have hlen113 := Own.len h100
  have hf1 := run_facts hrg hr1
  have hot := outs_len (ts := (joinP (rowsP rows) [] (batchP (turnP (rowsP rows)) (fewP l) 0)).1.take i) (fun x hx => hpo x (List.mem_of_mem_take hx))
  have hptl : ((joinP (rowsP rows) [] (batchP (turnP (rowsP rows)) (fewP l) 0)).1.take i).length ≤ i := by simp; omega
  refine CW.seq ?_
  refine CW.region ?_
  refine WL.lss rfl rfl ?_
  refine WL.nil ?_
  refine CW.seq ?_
  refine CW.condP rfl (fun hc114 => ?_) (fun hc114 => ?_)
  · have hil : i < (joinP (rowsP rows) [] (batchP (turnP (rowsP rows)) (fewP l) 0)).1.length := by omega
    have hio := hpo _ (List.getElem_mem hil)
    refine CW.skip ?_
    refine CW.seq ?_
    refine CW.block ?_
    refine CW.seq ?_
    refine CW.region ?_
    have hlt115 : i < ((joinP (rowsP rows) [] (batchP (turnP (rowsP rows)) (fewP l) 0)).1).length := by omega
    obtain ⟨ad116, cs117, hA118, hs119, hat120, hR121⟩ := Own.get h99 hlt115
    rw [show ((joinP (rowsP rows) [] (batchP (turnP (rowsP rows)) (fewP l) 0)).1)[i] = (joinP (rowsP rows) [] (batchP (turnP (rowsP rows)) (fewP l) 0)).1[i] from rfl] at hR121
    obtain ⟨_, hx124, ⟨A122, c123, rfl, hD125⟩, hi126, hi127, hi128⟩ := hR121
    rw [hx124] at hat120
    have hl129 := SlD.lim hD125
    simp only [I64] at hi126 hi127 hi128
    refine WL.idx es55 rfl rfl hA118 (by omega) (by omega) ?_
    refine WL.loadAgg (M := fun _ => False) (cs := [.int .i64 ((joinP (rowsP rows) [] (batchP (turnP (rowsP rows)) (fewP l) 0)).1[i].at_), .int .i64 ((joinP (rowsP rows) [] (batchP (turnP (rowsP rows)) (fewP l) 0)).1[i].len), .slice A122 ((joinP (rowsP rows) [] (batchP (turnP (rowsP rows)) (fewP l) 0)).1[i].out.length) c123, .int .i64 ((joinP (rowsP rows) [] (batchP (turnP (rowsP rows)) (fewP l) 0)).1[i].err)]) ag58 rfl hat120 ?_
    refine WL.alloc (cs := [.int .i64 0, .int .i64 0, .slice none 0 0, .int .i64 0]) ti58 rfl (fun g130 w131 hg132 hb133 he134 => ?_)
    obtain ⟨M135, u136, mem137, hsub138, hinv139⟩ := Ext.addVar he134 hm90 hg132 hb133
    have ge140 : ∀ q_, vb g130 q_ → wr0.heap.size ≤ q_ := fun q_ hq_ => by rw [hq_]; exact hg132
    have mem141 := Ms.one mem137
    have e142 := Stp.ext hE89 he134
    have hm143 := Up.mb u136
    have hs0144 : Ms M M135 := fun k h => hsub138 k (hsb92 k h)
    have hs0145 : Ms M66 M135 := fun k h => hsub138 k (hsp91 k h)
    have dj146 := Dj.fresh (T := Sg) ge140 mem104 hm90
    have dj147 := Dj.fresh (T := (ob (.slice A70 ((joinP (rowsP rows) [] (batchP (turnP (rowsP rows)) (fewP l) 0)).1).length c71))) ge140 mem111 hm90
    have dj148 := Dj.fresh (T := (ob (.slice A101 ou.length c103))) ge140 mem108 hm90
    have fr149 := Ge.le ge140 (Stp.size hE89)
    refine WL.storeAll (vs := [.int .i64 ((joinP (rowsP rows) [] (batchP (turnP (rowsP rows)) (fewP l) 0)).1[i].at_), .int .i64 ((joinP (rowsP rows) [] (batchP (turnP (rowsP rows)) (fewP l) 0)).1[i].len), .slice A122 ((joinP (rowsP rows) [] (batchP (turnP (rowsP rows)) (fewP l) 0)).1[i].out.length) c123, .int .i64 ((joinP (rowsP rows) [] (batchP (turnP (rowsP rows)) (fewP l) 0)).1[i].err)]) (by rw [ti58]; rfl) rfl rfl (by simp [Value.oneCell']) hb133 rfl (fun w150 hb151 hs152 => ?_)
    have u153 := Stp.upM hs152 hm143 mem141
    have e154 := Stp.wr e142 hs152 (Wr.ofFr NoM fr149)
    have hm155 := Up.mb u153
    refine WL.nil ?_
    refine CW.seq ?_
    refine CW.seq ?_
    refine CW.region ?_
    refine WL.fieldAddr fo58_3 rfl ?_
    refine WL.load sc46 rfl ((Bk.at_ (M := fun _ => False) hb151 (fun h => h)).cell 3 _ rfl) ?_
    refine WL.neq rfl rfl ?_
    refine WL.nil ?_
    refine CW.condP rfl (fun hc156 => ?_) (fun hc156 => ?_)
    · refine CW.seq ?_
      refine CW.region ?_
      refine WL.assign rfl ?_
      refine WL.nil ?_
      refine CW.ret ?_
      refine Ret.one rfl rfl ?_
      exact ⟨rfl, e154⟩
    · have heri : (joinP (rowsP rows) [] (batchP (turnP (rowsP rows)) (fewP l) 0)).1[i].err = 0 := Classical.not_not.1 hc156
      refine CW.skip ?_
      refine CW.seq ?_
      refine CW.region ?_
      refine WL.fieldAddr fo58_2 rfl ?_
      refine WL.load sc29 rfl ((Bk.at_ (M := fun _ => False) hb151 (fun h => h)).cell 2 _ rfl) ?_
      refine WL.len Try.underlying29 rfl ?_
      refine WL.move rfl ?_
      refine WL.nil ?_
      refine CW.block ?_
      have mem164 : Ms Sg M135 := (fun k h => hsub138 k (mem104 k h))
      have h165 := DecO.step h93 he134 (fun _ _ h => h) u136 mem164
      have h166 := DecO.step h165 hs152 (Dj.symm dj146) u153 mem164
      have h168 := Own.ext h99 he134 u136 hsub138
      have mem169 : Ms (ob (.slice A70 ((joinP (rowsP rows) [] (batchP (turnP (rowsP rows)) (fewP l) 0)).1).length c71)) M135 := (fun k h => hsub138 k (mem111 k h))
      have h170 := Own.step h168 hs152 (Dj.symm dj147) u153 mem169
      have h175 := Own.ext h100 he134 u136 hsub138
      have mem176 : Ms (ob (.slice A101 ou.length c103)) M135 := (fun k h => hsub138 k (mem108 k h))
      have h177 := Own.step h175 hs152 (Dj.symm dj148) u153 mem176
      refine CW.loop (fun m σ wr1 => ∃ j : Nat, ∃ s2 : List Int × Int, ∃ T2 : List PTok, ∃ Sh : MS, ∃ ou2 : List Int, ∃ Mr157 : MS, ∃ A172 : Option Addr, ∃ n173 : Nat, ∃ c174 : Nat, m = (joinP (rowsP rows) [] (batchP (turnP (rowsP rows)) (fewP l) 0)).1[i].out.length - j ∧ σ = [(1, .slice Ap2 l.length cp2), (7, .iface 109 (.pointer (some ⟨gd25, 0, none⟩))), (9, .slice A172 n173 c174), (46, .slice A70 (((joinP (rowsP rows) [] (batchP (turnP (rowsP rows)) (fewP l) 0)).1).length) c71), (47, .int .i64 (((joinP (rowsP rows) [] (batchP (turnP (rowsP rows)) (fewP l) 0)).1).length : Int)), (48, .int .i64 (i : Int)), (56, .slice A122 ((joinP (rowsP rows) [] (batchP (turnP (rowsP rows)) (fewP l) 0)).1[i].out.length) c123), (57, .int .i64 ((joinP (rowsP rows) [] (batchP (turnP (rowsP rows)) (fewP l) 0)).1[i].out.length : Int)), (58, .int .i64 (j : Int))] ∧ (Up w150 M135 wr1 Mr157) ∧ (Stp w wr1 NoM) ∧ (Ms M135 Mr157) ∧ (Ms M Mr157) ∧ (DecO gd25 (rowsP rows) wr1 Mr157 Sh s2) ∧ (Own TokR 4 58 wr1 Mr157 0 (.slice A70 (((joinP (rowsP rows) [] (batchP (turnP (rowsP rows)) (fewP l) 0)).1).length) c71) ((joinP (rowsP rows) [] (batchP (turnP (rowsP rows)) (fewP l) 0)).1)) ∧ (Own IntR 1 3 wr1 Mr157 0 (.slice A172 n173 c174) (ou2)) ∧ (Bk wr1 g130 58 [.int .i64 ((joinP (rowsP rows) [] (batchP (turnP (rowsP rows)) (fewP l) 0)).1[i].at_), .int .i64 ((joinP (rowsP rows) [] (batchP (turnP (rowsP rows)) (fewP l) 0)).1[i].len), .slice A122 ((joinP (rowsP rows) [] (batchP (turnP (rowsP rows)) (fewP l) 0)).1[i].out.length) c123, .int .i64 ((joinP (rowsP rows) [] (batchP (turnP (rowsP rows)) (fewP l) 0)).1[i].err)]) ∧ (Ms (Sh) Mr157) ∧ (∀ q_, (Sh) q_ → w.heap.size ≤ q_) ∧ (Dj (Sh) (ob (.slice A70 ((joinP (rowsP rows) [] (batchP (turnP (rowsP rows)) (fewP l) 0)).1).length c71))) ∧ (Dj (Sh) (ob (.slice A172 n173 c174))) ∧ (Dj (Sh) (vb g130)) ∧ (Ms (ob (.slice A172 n173 c174)) Mr157) ∧ (∀ q_, (ob (.slice A172 n173 c174)) q_ → w.heap.size ≤ q_) ∧ (Dj (ob (.slice A172 n173 c174)) (ob (.slice A70 ((joinP (rowsP rows) [] (batchP (turnP (rowsP rows)) (fewP l) 0)).1).length c71))) ∧ (Dj (ob (.slice A172 n173 c174)) (vb g130)) ∧ (j ≤ (joinP (rowsP rows) [] (batchP (turnP (rowsP rows)) (fewP l) 0)).1[i].out.length) ∧ (runP (matchPut (rowsP rows)) (outs ((joinP (rowsP rows) [] (batchP (turnP (rowsP rows)) (fewP l) 0)).1.take i) ++ (joinP (rowsP rows) [] (batchP (turnP (rowsP rows)) (fewP l) 0)).1[i].out.take j) ([], 0) = (T2, s2)) ∧ (ou2 = outs T2)) _ _ (.cons (t := 1) rfl (.cons (t := 7) rfl (.cons (t := 9) rfl (.cons (t := 46) rfl (.cons (t := 47) rfl (.cons (t := 48) rfl (.cons (t := 56) rfl (.cons (t := 57) rfl (.cons (t := 58) rfl (.nil _)))))))))) ⟨0, s1, T1, Sg, ou, M135, A101, ou.length, c103, rfl, rfl, Up.refl hm155, e154, fun _ h => h, hs0144, h166, h170, h177, hb151, mem164, wr105, dj106, dj107, (Dj.symm dj146), mem176, wr109, dj110, (Dj.symm dj148), by omega, by rw [List.take_zero, List.append_nil]; exact hr1, hou⟩ ?_
      rintro m _ wr1 ⟨j, s2, T2, Sh, ou2, Mr157, A172, n173, c174, rfl, rfl, hU158, hE159, hsp161, hsb162, h163, h167, h171, h178, mem179, wr180, dj181, dj182, dj183, mem184, wr185, dj186, dj187, hj, hr2, hou2⟩
      have hm160 := Up.mb hU158
      have hs0188 : Ms M66 Mr157 := fun k h => hsp161 k (hs0145 k h)
      have mem189 : Ms (ob (.slice A70 ((joinP (rowsP rows) [] (batchP (turnP (rowsP rows)) (fewP l) 0)).1).length c71)) Mr157 := (fun k h => hsp161 k (mem169 k h))
      have hlen190 := Own.len h167
      obtain rfl := Own.n h171
      have hlen191 := Own.len h171
      have mem192 : Ms (vb g130) Mr157 := (fun k h => hsp161 k (mem141 k h))
      have hf2 := run_facts hrg hr2
      have hln0 : (outs ((joinP (rowsP rows) [] (batchP (turnP (rowsP rows)) (fewP l) 0)).1.take i) ++ (joinP (rowsP rows) [] (batchP (turnP (rowsP rows)) (fewP l) 0)).1[i].out.take j).length = (outs ((joinP (rowsP rows) [] (batchP (turnP (rowsP rows)) (fewP l) 0)).1.take i)).length + j := by simp only [List.length_append, List.length_take]; omega
      refine CW.seq ?_
      refine CW.region ?_
      refine WL.lss rfl rfl ?_
      refine WL.nil ?_
      refine CW.seq ?_
      refine CW.condP rfl (fun hc193 => ?_) (fun hc193 => ?_)
      · have hjl : j < (joinP (rowsP rows) [] (batchP (turnP (rowsP rows)) (fewP l) 0)).1[i].out.length := by omega
        have hpf := put_outs hrg s2 (joinP (rowsP rows) [] (batchP (turnP (rowsP rows)) (fewP l) 0)).1[i].out[j] hf2.1 (by omega)
        refine CW.skip ?_
        refine CW.seq ?_
        refine CW.block ?_
        refine CW.seq ?_
        refine CW.region ?_
        have hlt194 : j < ((joinP (rowsP rows) [] (batchP (turnP (rowsP rows)) (fewP l) 0)).1[i].out).length := by omega
        obtain ⟨ad195, cs196, hA197, hs198, hat199, hR200⟩ := SlD.get (hD125.up (Up.trans u136 (Up.trans u153 hU158))) (List.getElem?_eq_getElem hlt194)
        rw [show _ = _ from hR200.1] at hat199
        have hhR200 := hR200.2; simp only [I64] at hhR200
        refine WL.idx es29 rfl rfl hA197 (by omega) (by omega) ?_
        refine WL.load sc3 rfl (hat199.cell 0 _ rfl) ?_
        refine WL.assign rfl ?_
        refine WL.nil ?_
        refine CW.seq ?_
        refine CW.region ?_
        refine WL.move rfl ?_
        refine WL.move rfl ?_
        obtain ⟨f201, r202, fn203, hm204, hf205, hn206, hb207, hF208⟩ := (dec_mach (rows_good rows) gd25).put (u := (joinP (rowsP rows) [] (batchP (turnP (rowsP rows)) (fewP l) 0)).1[i].out[j]) (n := 0) h163 hm160 ⟨hf2.1, by omega⟩ (SlD.i64 (hD125.up (Up.trans u136 (Up.trans u153 hU158))) hjl)
        refine WL.invoke rfl hm204 hf205 hn206 hb207 (.cons rfl (.nil)) (hF208) (fun _ w209 hr210 => ?_)
        obtain ⟨M211, S212, hP213, hM214⟩ := hr210
        have hP217 : PutR wr1 Mr157 Sh w209 M211 S212 _ ((matchPut (rowsP rows) s2 ((joinP (rowsP rows) [] (batchP (turnP (rowsP rows)) (fewP l) 0)).1[i].out[j])).1) := hP213
        obtain ⟨A215, c216, rfl⟩ := Own.form hP217.own
        have hM218 : DecO gd25 (rowsP rows) w209 M211 S212 (matchPut (rowsP rows) s2 ((joinP (rowsP rows) [] (batchP (turnP (rowsP rows)) (fewP l) 0)).1[i].out[j])).2 := hM214
        have e219 := Stp.wr hE159 (PutR.stp hP217) (Wr.ofFr NoM wr180)
        have hm220 := Up.mb (PutR.up hP217)
        have hs0221 : Ms M M211 := fun k h => (PutR.ms hP217) k (hsb162 k h)
        have hs0222 : Ms M66 M211 := fun k h => (PutR.ms hP217) k (hs0188 k h)
        have hs0223 : Ms M135 M211 := fun k h => (PutR.ms hP217) k (hsp161 k h)
        have dj224 := Dj.grow dj181 (PutR.wr hP217) mem189 hm160
        have dj225 := Dj.grow dj182 (PutR.wr hP217) mem184 hm160
        have dj226 := Dj.grow dj183 (PutR.wr hP217) mem192 hm160
        have fr228 := Ge.grow wr180 (PutR.wr hP217) (Stp.size hE159)
        have dj229 := Dj.fresh (T := (ob (.slice A70 ((joinP (rowsP rows) [] (batchP (turnP (rowsP rows)) (fewP l) 0)).1).length c71))) (PutR.new hP217) mem189 hm160
        have dj230 := Dj.fresh (T := (ob (.slice A172 ou2.length c174))) (PutR.new hP217) mem184 hm160
        have dj231 := Dj.fresh (T := (vb g130)) (PutR.new hP217) mem192 hm160
        have fr232 := Ge.le (PutR.new hP217) (Stp.size hE159)
        refine WL.len Try.underlying55 rfl ?_
        refine WL.move rfl ?_
        refine WL.nil ?_
        refine CW.block ?_
        have mem241 : Ms (ob (.slice A70 ((joinP (rowsP rows) [] (batchP (turnP (rowsP rows)) (fewP l) 0)).1).length c71)) M211 := (fun k h => (PutR.ms hP217) k (mem189 k h))
        have h242 := Own.step h167 (PutR.stp hP217) (Dj.symm dj181) (PutR.up hP217) mem241
        have mem247 : Ms (ob (.slice A172 ou2.length c174)) M211 := (fun k h => (PutR.ms hP217) k (mem184 k h))
        have h248 := Own.step h171 (PutR.stp hP217) (Dj.symm dj182) (PutR.up hP217) mem247
        have h250 := Bk.stp h178 (PutR.stp hP217) ((Dj.symm dj183) _ rfl)
        refine CW.loop (fun m σ wr2 => ∃ mou3 : Nat, ∃ ou3 : List Int, ∃ Mr233 : MS, ∃ A244 : Option Addr, ∃ n245 : Nat, ∃ c246 : Nat, m = (matchPut (rowsP rows) s2 (joinP (rowsP rows) [] (batchP (turnP (rowsP rows)) (fewP l) 0)).1[i].out[j]).1.length - mou3 ∧ σ = [(1, .slice Ap2 l.length cp2), (7, .iface 109 (.pointer (some ⟨gd25, 0, none⟩))), (9, .slice A244 n245 c246), (46, .slice A70 (((joinP (rowsP rows) [] (batchP (turnP (rowsP rows)) (fewP l) 0)).1).length) c71), (47, .int .i64 (((joinP (rowsP rows) [] (batchP (turnP (rowsP rows)) (fewP l) 0)).1).length : Int)), (48, .int .i64 (i : Int)), (56, .slice A122 ((joinP (rowsP rows) [] (batchP (turnP (rowsP rows)) (fewP l) 0)).1[i].out.length) c123), (57, .int .i64 ((joinP (rowsP rows) [] (batchP (turnP (rowsP rows)) (fewP l) 0)).1[i].out.length : Int)), (58, .int .i64 (j : Int)), (64, .slice A215 (((matchPut (rowsP rows) s2 ((joinP (rowsP rows) [] (batchP (turnP (rowsP rows)) (fewP l) 0)).1[i].out[j])).1).length) c216), (65, .int .i64 (((matchPut (rowsP rows) s2 ((joinP (rowsP rows) [] (batchP (turnP (rowsP rows)) (fewP l) 0)).1[i].out[j])).1).length : Int)), (66, .int .i64 (mou3 : Int))] ∧ (Up w209 M211 wr2 Mr233) ∧ (Stp w wr2 NoM) ∧ (Ms M211 Mr233) ∧ (Ms M Mr233) ∧ (DecO gd25 (rowsP rows) wr2 Mr233 S212 (matchPut (rowsP rows) s2 ((joinP (rowsP rows) [] (batchP (turnP (rowsP rows)) (fewP l) 0)).1[i].out[j])).2) ∧ (Own TokR 4 58 wr2 Mr233 0 (.slice A70 (((joinP (rowsP rows) [] (batchP (turnP (rowsP rows)) (fewP l) 0)).1).length) c71) ((joinP (rowsP rows) [] (batchP (turnP (rowsP rows)) (fewP l) 0)).1)) ∧ (Own IntR 1 3 wr2 Mr233 0 (.slice A244 n245 c246) (ou3)) ∧ (Bk wr2 g130 58 [.int .i64 ((joinP (rowsP rows) [] (batchP (turnP (rowsP rows)) (fewP l) 0)).1[i].at_), .int .i64 ((joinP (rowsP rows) [] (batchP (turnP (rowsP rows)) (fewP l) 0)).1[i].len), .slice A122 ((joinP (rowsP rows) [] (batchP (turnP (rowsP rows)) (fewP l) 0)).1[i].out.length) c123, .int .i64 ((joinP (rowsP rows) [] (batchP (turnP (rowsP rows)) (fewP l) 0)).1[i].err)]) ∧ (Own TokR 4 58 wr2 Mr233 0 (.slice A215 (((matchPut (rowsP rows) s2 ((joinP (rowsP rows) [] (batchP (turnP (rowsP rows)) (fewP l) 0)).1[i].out[j])).1).length) c216) ((matchPut (rowsP rows) s2 ((joinP (rowsP rows) [] (batchP (turnP (rowsP rows)) (fewP l) 0)).1[i].out[j])).1)) ∧ (Ms (ob (.slice A244 n245 c246)) Mr233) ∧ (∀ q_, (ob (.slice A244 n245 c246)) q_ → w.heap.size ≤ q_) ∧ (Dj (ob (.slice A244 n245 c246)) (S212)) ∧ (Dj (ob (.slice A244 n245 c246)) (ob (.slice A70 ((joinP (rowsP rows) [] (batchP (turnP (rowsP rows)) (fewP l) 0)).1).length c71))) ∧ (Dj (ob (.slice A244 n245 c246)) (vb g130)) ∧ (Dj (ob (.slice A244 n245 c246)) (ob (.slice A215 ((matchPut (rowsP rows) s2 ((joinP (rowsP rows) [] (batchP (turnP (rowsP rows)) (fewP l) 0)).1[i].out[j])).1).length c216))) ∧ (mou3 ≤ (matchPut (rowsP rows) s2 (joinP (rowsP rows) [] (batchP (turnP (rowsP rows)) (fewP l) 0)).1[i].out[j]).1.length) ∧ (ou3 = ou2 ++ outs ((matchPut (rowsP rows) s2 (joinP (rowsP rows) [] (batchP (turnP (rowsP rows)) (fewP l) 0)).1[i].out[j]).1.take mou3))) _ _ (.cons (t := 1) rfl (.cons (t := 7) rfl (.cons (t := 9) rfl (.cons (t := 46) rfl (.cons (t := 47) rfl (.cons (t := 48) rfl (.cons (t := 56) rfl (.cons (t := 57) rfl (.cons (t := 58) rfl (.cons (t := 64) rfl (.cons (t := 65) rfl (.cons (t := 66) rfl (.nil _))))))))))))) ⟨0, ou2, M211, A172, ou2.length, c174, rfl, rfl, Up.refl hm220, e219, fun _ h => h, hs0221, hM218, h242, h248, h250, (PutR.own hP217), mem247, wr185, (Dj.symm dj225), dj186, dj187, (Dj.symm dj230), by omega, by simp [outs]⟩ ?_
        rintro m _ wr2 ⟨mou3, ou3, Mr233, A244, n245, c246, rfl, rfl, hU234, hE235, hsp237, hsb238, h239, h240, h243, h249, h251, mem252, wr253, dj254, dj255, dj256, dj257, hmou3, hou3⟩
        have hm236 := Up.mb hU234
        have hs0258 : Ms M66 Mr233 := fun k h => hsp237 k (hs0222 k h)
        have hs0259 : Ms M135 Mr233 := fun k h => hsp237 k (hs0223 k h)
        have mem260 : Ms S212 Mr233 := (fun k h => hsp237 k ((DecO.ms hM218) k h))
        have mem261 : Ms (ob (.slice A70 ((joinP (rowsP rows) [] (batchP (turnP (rowsP rows)) (fewP l) 0)).1).length c71)) Mr233 := (fun k h => hsp237 k (mem241 k h))
        have hlen262 := Own.len h240
        obtain rfl := Own.n h243
        have hlen263 := Own.len h243
        have mem264 : Ms (vb g130) Mr233 := (fun k h => hsp237 k ((fun k h => (PutR.ms hP217) k (mem192 k h)) k h))
        have mem265 : Ms (ob (.slice A215 ((matchPut (rowsP rows) s2 ((joinP (rowsP rows) [] (batchP (turnP (rowsP rows)) (fewP l) 0)).1[i].out[j])).1).length c216)) Mr233 := (fun k h => hsp237 k ((Own.ms (PutR.own hP217)) k h))
        have hlen266 := Own.len h251
        have hol := outs_len (ts := (matchPut (rowsP rows) s2 (joinP (rowsP rows) [] (batchP (turnP (rowsP rows)) (fewP l) 0)).1[i].out[j]).1.take mou3) (fun x hx => hpf.2 x (List.mem_of_mem_take hx))
        have hmt : ((matchPut (rowsP rows) s2 (joinP (rowsP rows) [] (batchP (turnP (rowsP rows)) (fewP l) 0)).1[i].out[j]).1.take mou3).length ≤ mou3 := by simp; omega
        have hgl : ou3.length = ou2.length + (outs ((matchPut (rowsP rows) s2 (joinP (rowsP rows) [] (batchP (turnP (rowsP rows)) (fewP l) 0)).1[i].out[j]).1.take mou3)).length := by rw [hou3, List.length_append]
        have hbl2 : ou2.length = (outs T2).length := by rw [hou2]
        refine CW.seq ?_
        refine CW.region ?_
        refine WL.lss rfl rfl ?_
        refine WL.nil ?_
        refine CW.seq ?_
        refine CW.condP rfl (fun hc267 => ?_) (fun hc267 => ?_)
        · have hml : mou3 < (matchPut (rowsP rows) s2 (joinP (rowsP rows) [] (batchP (turnP (rowsP rows)) (fewP l) 0)).1[i].out[j]).1.length := by omega
          have hx8 := hpf.2 _ (List.getElem_mem hml)
          refine CW.skip ?_
          refine CW.seq ?_
          refine CW.block ?_
          refine CW.seq ?_
          refine CW.region ?_
          have hlt268 : mou3 < ((matchPut (rowsP rows) s2 ((joinP (rowsP rows) [] (batchP (turnP (rowsP rows)) (fewP l) 0)).1[i].out[j])).1).length := by omega
          obtain ⟨ad269, cs270, hA271, hs272, hat273, hR274⟩ := Own.get h251 hlt268
          rw [show ((matchPut (rowsP rows) s2 ((joinP (rowsP rows) [] (batchP (turnP (rowsP rows)) (fewP l) 0)).1[i].out[j])).1)[mou3] = (matchPut (rowsP rows) s2 (joinP (rowsP rows) [] (batchP (turnP (rowsP rows)) (fewP l) 0)).1[i].out[j]).1[mou3] from rfl] at hR274
          obtain ⟨_, hx277, ⟨A275, c276, rfl, hD278⟩, hi279, hi280, hi281⟩ := hR274
          rw [hx277] at hat273
          have hl282 := SlD.lim hD278
          simp only [I64] at hi279 hi280 hi281
          refine WL.idx es55 rfl rfl hA271 (by omega) (by omega) ?_
          refine WL.loadAgg (M := fun _ => False) (cs := [.int .i64 ((matchPut (rowsP rows) s2 (joinP (rowsP rows) [] (batchP (turnP (rowsP rows)) (fewP l) 0)).1[i].out[j]).1[mou3].at_), .int .i64 ((matchPut (rowsP rows) s2 (joinP (rowsP rows) [] (batchP (turnP (rowsP rows)) (fewP l) 0)).1[i].out[j]).1[mou3].len), .slice A275 ((matchPut (rowsP rows) s2 (joinP (rowsP rows) [] (batchP (turnP (rowsP rows)) (fewP l) 0)).1[i].out[j]).1[mou3].out.length) c276, .int .i64 ((matchPut (rowsP rows) s2 (joinP (rowsP rows) [] (batchP (turnP (rowsP rows)) (fewP l) 0)).1[i].out[j]).1[mou3].err)]) ag58 rfl hat273 ?_
          refine WL.alloc (cs := [.int .i64 0, .int .i64 0, .slice none 0 0, .int .i64 0]) ti58 rfl (fun g283 w284 hg285 hb286 he287 => ?_)
          obtain ⟨M288, u289, mem290, hsub291, hinv292⟩ := Ext.addVar he287 hm236 hg285 hb286
          have ge293 : ∀ q_, vb g283 q_ → wr2.heap.size ≤ q_ := fun q_ hq_ => by rw [hq_]; exact hg285
          have mem294 := Ms.one mem290
          have e295 := Stp.ext hE235 he287
          have hm296 := Up.mb u289
          have hs0297 : Ms M M288 := fun k h => hsub291 k (hsb238 k h)
          have hs0298 : Ms M66 M288 := fun k h => hsub291 k (hs0258 k h)
          have hs0299 : Ms M135 M288 := fun k h => hsub291 k (hs0259 k h)
          have hs0300 : Ms M211 M288 := fun k h => hsub291 k (hsp237 k h)
          have dj301 := Dj.fresh (T := S212) ge293 mem260 hm236
          have dj302 := Dj.fresh (T := (ob (.slice A70 ((joinP (rowsP rows) [] (batchP (turnP (rowsP rows)) (fewP l) 0)).1).length c71))) ge293 mem261 hm236
          have dj303 := Dj.fresh (T := (ob (.slice A244 ou3.length c246))) ge293 mem252 hm236
          have dj304 := Dj.fresh (T := (vb g130)) ge293 mem264 hm236
          have dj305 := Dj.fresh (T := (ob (.slice A215 ((matchPut (rowsP rows) s2 ((joinP (rowsP rows) [] (batchP (turnP (rowsP rows)) (fewP l) 0)).1[i].out[j])).1).length c216))) ge293 mem265 hm236
          have fr306 := Ge.le ge293 (Stp.size hE235)
          refine WL.storeAll (vs := [.int .i64 ((matchPut (rowsP rows) s2 (joinP (rowsP rows) [] (batchP (turnP (rowsP rows)) (fewP l) 0)).1[i].out[j]).1[mou3].at_), .int .i64 ((matchPut (rowsP rows) s2 (joinP (rowsP rows) [] (batchP (turnP (rowsP rows)) (fewP l) 0)).1[i].out[j]).1[mou3].len), .slice A275 ((matchPut (rowsP rows) s2 (joinP (rowsP rows) [] (batchP (turnP (rowsP rows)) (fewP l) 0)).1[i].out[j]).1[mou3].out.length) c276, .int .i64 ((matchPut (rowsP rows) s2 (joinP (rowsP rows) [] (batchP (turnP (rowsP rows)) (fewP l) 0)).1[i].out[j]).1[mou3].err)]) (by rw [ti58]; rfl) rfl rfl (by simp [Value.oneCell']) hb286 rfl (fun w307 hb308 hs309 => ?_)
          have u310 := Stp.upM hs309 hm296 mem294
          have e311 := Stp.wr e295 hs309 (Wr.ofFr NoM fr306)
          have hm312 := Up.mb u310
          refine WL.nil ?_
          refine CW.region ?_
          refine WL.move rfl ?_
          refine WL.fieldAddr fo58_2 rfl ?_
          refine WL.load sc29 rfl ((Bk.at_ (M := fun _ => False) hb308 (fun h => h)).cell 2 _ rfl) ?_
          have h322 := Own.ext h243 he287 u289 hsub291
          have mem323 : Ms (ob (.slice A244 ou3.length c246)) M288 := (fun k h => hsub291 k (mem252 k h))
          have h324 := Own.step h322 hs309 (Dj.symm dj303) u310 mem323
          refine WL.appendR Try.underlying29 ti3 rfl (by decide) rfl rfl h324 (Sl.atl (SlD.sl (hD278.up (Up.trans u289 u310)))) hm312 (by decide) (by first | omega | (simp; omega)) (fun A313 c314 w315 M316 hO317 hs318 u319 hsub320 hnew321 => ?_)
          have e325 := Stp.wr e311 hs318 (Wr.ofFr NoM wr253)
          have hm326 := Up.mb u319
          have hs0327 : Ms M M316 := fun k h => hsub320 k (hs0297 k h)
          have hs0328 : Ms M66 M316 := fun k h => hsub320 k (hs0298 k h)
          have hs0329 : Ms M135 M316 := fun k h => hsub320 k (hs0299 k h)
          have hs0330 : Ms M211 M316 := fun k h => hsub320 k (hs0300 k h)
          have mem332 : Ms S212 M288 := (fun k h => hsub291 k (mem260 k h))
          have dj331 := Dj.grow dj254 hnew321 mem332 hm312
          have mem334 : Ms (ob (.slice A70 ((joinP (rowsP rows) [] (batchP (turnP (rowsP rows)) (fewP l) 0)).1).length c71)) M288 := (fun k h => hsub291 k (mem261 k h))
          have dj333 := Dj.grow dj255 hnew321 mem334 hm312
          have mem336 : Ms (vb g130) M288 := (fun k h => hsub291 k (mem264 k h))
          have dj335 := Dj.grow dj256 hnew321 mem336 hm312
          have mem338 : Ms (ob (.slice A215 ((matchPut (rowsP rows) s2 ((joinP (rowsP rows) [] (batchP (turnP (rowsP rows)) (fewP l) 0)).1[i].out[j])).1).length c216)) M288 := (fun k h => hsub291 k (mem265 k h))
          have dj337 := Dj.grow dj257 hnew321 mem338 hm312
          have dj339 := Dj.grow (Dj.symm dj303) hnew321 mem294 hm312
          have fr341 := Ge.grow wr253 hnew321 (Stp.size e311)
          refine WL.assign rfl ?_
          refine WL.nil ?_
          refine CW.region ?_
          refine WL.add rfl rfl (by omega) ?_
          refine WL.move rfl ?_
          refine WL.nil ?_
          have mem342 : Ms S212 M288 := (fun k h => hsub291 k (mem260 k h))
          have h343 := DecO.step h239 he287 (fun _ _ h => h) u289 mem342
          have h344 := DecO.step h343 hs309 (Dj.symm dj301) u310 mem332
          have mem345 : Ms S212 M316 := (fun k h => hsub320 k (mem332 k h))
          have h346 := DecO.step h344 hs318 (Dj.symm dj254) u319 mem345
          have h347 := Own.ext h240 he287 u289 hsub291
          have h348 := Own.step h347 hs309 (Dj.symm dj302) u310 mem334
          have mem349 : Ms (ob (.slice A70 ((joinP (rowsP rows) [] (batchP (turnP (rowsP rows)) (fewP l) 0)).1).length c71)) M316 := (fun k h => hsub320 k (mem334 k h))
          have h350 := Own.step h348 hs318 (Dj.symm dj255) u319 mem349
          have h351 := Bk.ext h249 he287
          have h352 := Bk.stp h351 hs309 ((Dj.symm dj304) _ rfl)
          have h353 := Bk.stp h352 hs318 ((Dj.symm dj256) _ rfl)
          have h354 := Own.ext h251 he287 u289 hsub291
          have h355 := Own.step h354 hs309 (Dj.symm dj305) u310 mem338
          have mem356 : Ms (ob (.slice A215 ((matchPut (rowsP rows) s2 ((joinP (rowsP rows) [] (batchP (turnP (rowsP rows)) (fewP l) 0)).1[i].out[j])).1).length c216)) M316 := (fun k h => hsub320 k (mem338 k h))
          have h357 := Own.step h355 hs318 (Dj.symm dj257) u319 mem356
          refine Loop.again _ _ ?_ ?_ ⟨mou3 + 1, ou3 ++ ((matchPut (rowsP rows) s2 (joinP (rowsP rows) [] (batchP (turnP (rowsP rows)) (fewP l) 0)).1[i].out[j]).1[mou3].out), M316, A313, (ou3 ++ ((matchPut (rowsP rows) s2 (joinP (rowsP rows) [] (batchP (turnP (rowsP rows)) (fewP l) 0)).1[i].out[j]).1[mou3].out)).length, c314, rfl, rfl, (Up.trans hU234 (Up.trans u289 (Up.trans u310 u319))), e325, hs0330, hs0327, h346, h350, hO317, h353, h357, (Own.ms hO317), fr341, dj331, dj333, dj335, dj337, by omega, by rw [hou3, outs_take_succ hml, List.append_assoc]⟩
          · omega
          · exact .cons (t := 1) rfl (.cons (t := 7) rfl (.cons (t := 9) rfl (.cons (t := 46) rfl (.cons (t := 47) rfl (.cons (t := 48) rfl (.cons (t := 56) rfl (.cons (t := 57) rfl (.cons (t := 58) rfl (.cons (t := 64) rfl (.cons (t := 65) rfl (.cons (t := 66) rfl (.nil _))))))))))))
        · have hme : mou3 = (matchPut (rowsP rows) s2 (joinP (rowsP rows) [] (batchP (turnP (rowsP rows)) (fewP l) 0)).1[i].out[j]).1.length := by omega
          refine CW.exit ?_
          refine CW.region ?_
          refine WL.add rfl rfl (by omega) ?_
          refine WL.move rfl ?_
          refine WL.nil ?_
          refine Loop.again _ _ ?_ ?_ ⟨j + 1, (matchPut (rowsP rows) s2 (joinP (rowsP rows) [] (batchP (turnP (rowsP rows)) (fewP l) 0)).1[i].out[j]).2, T2 ++ (matchPut (rowsP rows) s2 (joinP (rowsP rows) [] (batchP (turnP (rowsP rows)) (fewP l) 0)).1[i].out[j]).1, S212, ou3, Mr233, A244, ou3.length, c246, rfl, rfl, (Up.trans hU158 (Up.trans (PutR.up hP217) hU234)), hE235, hs0259, hsb238, h239, h240, h243, h249, mem260, fr228, dj224, (Dj.symm dj254), dj226, mem252, wr253, dj255, dj256, by omega, by rw [outs_step hjl, run_append, hr2]; simp [runP], by rw [hou3, hou2, outs_append, List.take_of_length_le (by omega)]⟩
          · omega
          · exact .cons (t := 1) rfl (.cons (t := 7) rfl (.cons (t := 9) rfl (.cons (t := 46) rfl (.cons (t := 47) rfl (.cons (t := 48) rfl (.cons (t := 56) rfl (.cons (t := 57) rfl (.cons (t := 58) rfl (.nil _)))))))))
      · have hjE : j = (joinP (rowsP rows) [] (batchP (turnP (rowsP rows)) (fewP l) 0)).1[i].out.length := by omega
        refine CW.exit ?_
        refine CW.region ?_
        refine WL.add rfl rfl (by omega) ?_
        refine WL.move rfl ?_
        refine WL.nil ?_
        have hoe : outs ((joinP (rowsP rows) [] (batchP (turnP (rowsP rows)) (fewP l) 0)).1.take i) ++ (joinP (rowsP rows) [] (batchP (turnP (rowsP rows)) (fewP l) 0)).1[i].out.take j = outs ((joinP (rowsP rows) [] (batchP (turnP (rowsP rows)) (fewP l) 0)).1.take (i + 1)) := by rw [hjE, List.take_length, outs_take_succ hil]
        rw [hoe] at hr2
        refine Loop.again _ _ ?_ ?_ ⟨i + 1, s2, T2, Sh, ou2, Mr157, A172, ou2.length, c174, rfl, rfl, (Up.trans hU88 (Up.trans u136 (Up.trans u153 hU158))), hE159, hs0188, hsb162, h163, h167, h171, mem179, wr180, dj181, dj182, mem184, wr185, dj186, by omega, hr2, hou2, err_next hil her heri⟩
        · omega
        · exact .cons (t := 1) rfl (.cons (t := 7) rfl (.cons (t := 9) rfl (.cons (t := 46) rfl (.cons (t := 47) rfl (.cons (t := 48) rfl (.nil _))))))
  · have hie : i = (joinP (rowsP rows) [] (batchP (turnP (rowsP rows)) (fewP l) 0)).1.length := by omega
    have hr1e : runP (matchPut (rowsP rows)) (outs (joinP (rowsP rows) [] (batchP (turnP (rowsP rows)) (fewP l) 0)).1) ([], 0) = (T1, s1) := by rw [← hr1, hie, List.take_length]
    have here : ∀ x ∈ (joinP (rowsP rows) [] (batchP (turnP (rowsP rows)) (fewP l) 0)).1, x.err = 0 := by rw [hie, List.take_length] at her; exact her
    have hft := fin_facts hrg s1
    refine CW.exit ?_
    refine CW.seq ?_
    refine CW.seq ?_
    refine CW.region ?_
    refine WL.move rfl ?_
    obtain ⟨f358, r359, fn360, hm361, hf362, hn363, hb364, hF365⟩ := (dec_mach (rows_good rows) gd25).fin (n := 0) h93 hm90 ⟨hf1.1, by omega⟩
    refine WL.invoke rfl hm361 hf362 hn363 hb364 (.nil) (hF365) (fun _ w366 hr367 => ?_)
    obtain ⟨M368, S369, hP370, hM371⟩ := hr367
    have hP374 : PutR wr0 Mr87 Sg w366 M368 S369 _ ((matchFin (rowsP rows) s1).1) := hP370
    obtain ⟨A372, c373, rfl⟩ := Own.form hP374.own
    have hM375 : DecO gd25 (rowsP rows) w366 M368 S369 (matchFin (rowsP rows) s1).2 := hM371
    have e376 := Stp.wr hE89 (PutR.stp hP374) (Wr.ofFr NoM wr105)
    have hm377 := Up.mb (PutR.up hP374)
    have hs0378 : Ms M M368 := fun k h => (PutR.ms hP374) k (hsb92 k h)
    have hs0379 : Ms M66 M368 := fun k h => (PutR.ms hP374) k (hsp91 k h)
    have dj380 := Dj.grow dj106 (PutR.wr hP374) mem111 hm90
    have dj381 := Dj.grow dj107 (PutR.wr hP374) mem108 hm90
    have fr383 := Ge.grow wr105 (PutR.wr hP374) (Stp.size hE89)
    have dj384 := Dj.fresh (T := (ob (.slice A70 ((joinP (rowsP rows) [] (batchP (turnP (rowsP rows)) (fewP l) 0)).1).length c71))) (PutR.new hP374) mem111 hm90
    have dj385 := Dj.fresh (T := (ob (.slice A101 ou.length c103))) (PutR.new hP374) mem108 hm90
    have fr386 := Ge.le (PutR.new hP374) (Stp.size hE89)
    refine WL.len Try.underlying55 rfl ?_
    refine WL.move rfl ?_
    refine WL.nil ?_
    refine CW.block ?_
    have mem395 : Ms (ob (.slice A70 ((joinP (rowsP rows) [] (batchP (turnP (rowsP rows)) (fewP l) 0)).1).length c71)) M368 := (fun k h => (PutR.ms hP374) k (mem111 k h))
    have h396 := Own.step h99 (PutR.stp hP374) (Dj.symm dj106) (PutR.up hP374) mem395
    have mem401 : Ms (ob (.slice A101 ou.length c103)) M368 := (fun k h => (PutR.ms hP374) k (mem108 k h))
    have h402 := Own.step h100 (PutR.stp hP374) (Dj.symm dj107) (PutR.up hP374) mem401
    refine CW.loop (fun m σ wr3 => ∃ mou4 : Nat, ∃ ou4 : List Int, ∃ Mr387 : MS, ∃ A398 : Option Addr, ∃ n399 : Nat, ∃ c400 : Nat, m = (matchFin (rowsP rows) s1).1.length - mou4 ∧ σ = [(1, .slice Ap2 l.length cp2), (9, .slice A398 n399 c400), (78, .slice A372 (((matchFin (rowsP rows) s1).1).length) c373), (79, .int .i64 (((matchFin (rowsP rows) s1).1).length : Int)), (80, .int .i64 (mou4 : Int))] ∧ (Up w366 M368 wr3 Mr387) ∧ (Stp w wr3 NoM) ∧ (Ms M368 Mr387) ∧ (Ms M Mr387) ∧ (DecO gd25 (rowsP rows) wr3 Mr387 S369 (matchFin (rowsP rows) s1).2) ∧ (Own TokR 4 58 wr3 Mr387 0 (.slice A70 (((joinP (rowsP rows) [] (batchP (turnP (rowsP rows)) (fewP l) 0)).1).length) c71) ((joinP (rowsP rows) [] (batchP (turnP (rowsP rows)) (fewP l) 0)).1)) ∧ (Own IntR 1 3 wr3 Mr387 0 (.slice A398 n399 c400) (ou4)) ∧ (Own TokR 4 58 wr3 Mr387 0 (.slice A372 (((matchFin (rowsP rows) s1).1).length) c373) ((matchFin (rowsP rows) s1).1)) ∧ (Ms (ob (.slice A398 n399 c400)) Mr387) ∧ (∀ q_, (ob (.slice A398 n399 c400)) q_ → w.heap.size ≤ q_) ∧ (Dj (ob (.slice A398 n399 c400)) (S369)) ∧ (Dj (ob (.slice A398 n399 c400)) (ob (.slice A70 ((joinP (rowsP rows) [] (batchP (turnP (rowsP rows)) (fewP l) 0)).1).length c71))) ∧ (Dj (ob (.slice A398 n399 c400)) (ob (.slice A372 ((matchFin (rowsP rows) s1).1).length c373))) ∧ (mou4 ≤ (matchFin (rowsP rows) s1).1.length) ∧ (ou4 = ou ++ outs ((matchFin (rowsP rows) s1).1.take mou4))) _ _ (.cons (t := 1) rfl (.cons (t := 9) rfl (.cons (t := 78) rfl (.cons (t := 79) rfl (.cons (t := 80) rfl (.nil _)))))) ⟨0, ou, M368, A101, ou.length, c103, rfl, rfl, Up.refl hm377, e376, fun _ h => h, hs0378, hM375, h396, h402, (PutR.own hP374), mem401, wr109, (Dj.symm dj381), dj110, (Dj.symm dj385), by omega, by simp [outs]⟩ ?_
    rintro m _ wr3 ⟨mou4, ou4, Mr387, A398, n399, c400, rfl, rfl, hU388, hE389, hsp391, hsb392, h393, h394, h397, h403, mem404, wr405, dj406, dj407, dj408, hmou4, hou4⟩
    have hm390 := Up.mb hU388
    have hs0409 : Ms M66 Mr387 := fun k h => hsp391 k (hs0379 k h)
    have mem410 : Ms S369 Mr387 := (fun k h => hsp391 k ((DecO.ms hM375) k h))
    have mem411 : Ms (ob (.slice A70 ((joinP (rowsP rows) [] (batchP (turnP (rowsP rows)) (fewP l) 0)).1).length c71)) Mr387 := (fun k h => hsp391 k (mem395 k h))
    have hlen412 := Own.len h394
    obtain rfl := Own.n h397
    have hlen413 := Own.len h397
    have mem414 : Ms (ob (.slice A372 ((matchFin (rowsP rows) s1).1).length c373)) Mr387 := (fun k h => hsp391 k ((Own.ms (PutR.own hP374)) k h))
    have hlen415 := Own.len h403
    have hol := outs_len (ts := (matchFin (rowsP rows) s1).1.take mou4) (fun x hx => hft.2 x (List.mem_of_mem_take hx))
    have hmt : ((matchFin (rowsP rows) s1).1.take mou4).length ≤ mou4 := by simp; omega
    have hgl : ou4.length = ou.length + (outs ((matchFin (rowsP rows) s1).1.take mou4)).length := by rw [hou4, List.length_append]
    have hbl2 : ou.length = (outs T1).length := by rw [hou]
    refine CW.seq ?_
    refine CW.region ?_
    refine WL.lss rfl rfl ?_
    refine WL.nil ?_
    refine CW.seq ?_
    refine CW.condP rfl (fun hc416 => ?_) (fun hc416 => ?_)
    · have hml : mou4 < (matchFin (rowsP rows) s1).1.length := by omega
      have hx8 := hft.2 _ (List.getElem_mem hml)
      refine CW.skip ?_
      refine CW.seq ?_
      refine CW.block ?_
      refine CW.seq ?_
      refine CW.region ?_
      have hlt417 : mou4 < ((matchFin (rowsP rows) s1).1).length := by omega
      obtain ⟨ad418, cs419, hA420, hs421, hat422, hR423⟩ := Own.get h403 hlt417
      rw [show ((matchFin (rowsP rows) s1).1)[mou4] = (matchFin (rowsP rows) s1).1[mou4] from rfl] at hR423
      obtain ⟨_, hx426, ⟨A424, c425, rfl, hD427⟩, hi428, hi429, hi430⟩ := hR423
      rw [hx426] at hat422
      have hl431 := SlD.lim hD427
      simp only [I64] at hi428 hi429 hi430
      refine WL.idx es55 rfl rfl hA420 (by omega) (by omega) ?_
      refine WL.loadAgg (M := fun _ => False) (cs := [.int .i64 ((matchFin (rowsP rows) s1).1[mou4].at_), .int .i64 ((matchFin (rowsP rows) s1).1[mou4].len), .slice A424 ((matchFin (rowsP rows) s1).1[mou4].out.length) c425, .int .i64 ((matchFin (rowsP rows) s1).1[mou4].err)]) ag58 rfl hat422 ?_
      refine WL.alloc (cs := [.int .i64 0, .int .i64 0, .slice none 0 0, .int .i64 0]) ti58 rfl (fun g432 w433 hg434 hb435 he436 => ?_)
      obtain ⟨M437, u438, mem439, hsub440, hinv441⟩ := Ext.addVar he436 hm390 hg434 hb435
      have ge442 : ∀ q_, vb g432 q_ → wr3.heap.size ≤ q_ := fun q_ hq_ => by rw [hq_]; exact hg434
      have mem443 := Ms.one mem439
      have e444 := Stp.ext hE389 he436
      have hm445 := Up.mb u438
      have hs0446 : Ms M M437 := fun k h => hsub440 k (hsb392 k h)
      have hs0447 : Ms M66 M437 := fun k h => hsub440 k (hs0409 k h)
      have hs0448 : Ms M368 M437 := fun k h => hsub440 k (hsp391 k h)
      have dj449 := Dj.fresh (T := S369) ge442 mem410 hm390
      have dj450 := Dj.fresh (T := (ob (.slice A70 ((joinP (rowsP rows) [] (batchP (turnP (rowsP rows)) (fewP l) 0)).1).length c71))) ge442 mem411 hm390
      have dj451 := Dj.fresh (T := (ob (.slice A398 ou4.length c400))) ge442 mem404 hm390
      have dj452 := Dj.fresh (T := (ob (.slice A372 ((matchFin (rowsP rows) s1).1).length c373))) ge442 mem414 hm390
      have fr453 := Ge.le ge442 (Stp.size hE389)
      refine WL.storeAll (vs := [.int .i64 ((matchFin (rowsP rows) s1).1[mou4].at_), .int .i64 ((matchFin (rowsP rows) s1).1[mou4].len), .slice A424 ((matchFin (rowsP rows) s1).1[mou4].out.length) c425, .int .i64 ((matchFin (rowsP rows) s1).1[mou4].err)]) (by rw [ti58]; rfl) rfl rfl (by simp [Value.oneCell']) hb435 rfl (fun w454 hb455 hs456 => ?_)
      have u457 := Stp.upM hs456 hm445 mem443
      have e458 := Stp.wr e444 hs456 (Wr.ofFr NoM fr453)
      have hm459 := Up.mb u457
      refine WL.nil ?_
      refine CW.region ?_
      refine WL.move rfl ?_
      refine WL.fieldAddr fo58_2 rfl ?_
      refine WL.load sc29 rfl ((Bk.at_ (M := fun _ => False) hb455 (fun h => h)).cell 2 _ rfl) ?_
      have h469 := Own.ext h397 he436 u438 hsub440
      have mem470 : Ms (ob (.slice A398 ou4.length c400)) M437 := (fun k h => hsub440 k (mem404 k h))
      have h471 := Own.step h469 hs456 (Dj.symm dj451) u457 mem470
      refine WL.appendR Try.underlying29 ti3 rfl (by decide) rfl rfl h471 (Sl.atl (SlD.sl (hD427.up (Up.trans u438 u457)))) hm459 (by decide) (by first | omega | (simp; omega)) (fun A460 c461 w462 M463 hO464 hs465 u466 hsub467 hnew468 => ?_)
      have e472 := Stp.wr e458 hs465 (Wr.ofFr NoM wr405)
      have hm473 := Up.mb u466
      have hs0474 : Ms M M463 := fun k h => hsub467 k (hs0446 k h)
      have hs0475 : Ms M66 M463 := fun k h => hsub467 k (hs0447 k h)
      have hs0476 : Ms M368 M463 := fun k h => hsub467 k (hs0448 k h)
      have mem478 : Ms S369 M437 := (fun k h => hsub440 k (mem410 k h))
      have dj477 := Dj.grow dj406 hnew468 mem478 hm459
      have mem480 : Ms (ob (.slice A70 ((joinP (rowsP rows) [] (batchP (turnP (rowsP rows)) (fewP l) 0)).1).length c71)) M437 := (fun k h => hsub440 k (mem411 k h))
      have dj479 := Dj.grow dj407 hnew468 mem480 hm459
      have mem482 : Ms (ob (.slice A372 ((matchFin (rowsP rows) s1).1).length c373)) M437 := (fun k h => hsub440 k (mem414 k h))
      have dj481 := Dj.grow dj408 hnew468 mem482 hm459
      have dj483 := Dj.grow (Dj.symm dj451) hnew468 mem443 hm459
      have fr485 := Ge.grow wr405 hnew468 (Stp.size e458)
      refine WL.assign rfl ?_
      refine WL.nil ?_
      refine CW.region ?_
      refine WL.add rfl rfl (by omega) ?_
      refine WL.move rfl ?_
      refine WL.nil ?_
      have mem486 : Ms S369 M437 := (fun k h => hsub440 k (mem410 k h))
      have h487 := DecO.step h393 he436 (fun _ _ h => h) u438 mem486
      have h488 := DecO.step h487 hs456 (Dj.symm dj449) u457 mem478
      have mem489 : Ms S369 M463 := (fun k h => hsub467 k (mem478 k h))
      have h490 := DecO.step h488 hs465 (Dj.symm dj406) u466 mem489
      have h491 := Own.ext h394 he436 u438 hsub440
      have h492 := Own.step h491 hs456 (Dj.symm dj450) u457 mem480
      have mem493 : Ms (ob (.slice A70 ((joinP (rowsP rows) [] (batchP (turnP (rowsP rows)) (fewP l) 0)).1).length c71)) M463 := (fun k h => hsub467 k (mem480 k h))
      have h494 := Own.step h492 hs465 (Dj.symm dj407) u466 mem493
      have h495 := Own.ext h403 he436 u438 hsub440
      have h496 := Own.step h495 hs456 (Dj.symm dj452) u457 mem482
      have mem497 : Ms (ob (.slice A372 ((matchFin (rowsP rows) s1).1).length c373)) M463 := (fun k h => hsub467 k (mem482 k h))
      have h498 := Own.step h496 hs465 (Dj.symm dj408) u466 mem497
      refine Loop.again _ _ ?_ ?_ ⟨mou4 + 1, ou4 ++ ((matchFin (rowsP rows) s1).1[mou4].out), M463, A460, (ou4 ++ ((matchFin (rowsP rows) s1).1[mou4].out)).length, c461, rfl, rfl, (Up.trans hU388 (Up.trans u438 (Up.trans u457 u466))), e472, hs0476, hs0474, h490, h494, hO464, h498, (Own.ms hO464), fr485, dj477, dj479, dj481, by omega, by rw [hou4, outs_take_succ hml, List.append_assoc]⟩
      · omega
      · exact .cons (t := 1) rfl (.cons (t := 9) rfl (.cons (t := 78) rfl (.cons (t := 79) rfl (.cons (t := 80) rfl (.nil _)))))
    · have hme : mou4 = (matchFin (rowsP rows) s1).1.length := by omega
      refine CW.exit ?_
      refine CW.seq ?_
      refine CW.region ?_
      refine WL.move rfl ?_
      refine WL.move rfl ?_
      refine WL.call Try.func28 rfl rfl (.cons rfl (.nil)) (few_spec _ _ hm390 (h2.up (Up.trans u4 (Up.trans u13 (Up.trans u19 (Up.trans hu30 (Up.trans hu44 (Up.trans u58 (Up.trans (PutR.up hP72) (Up.trans hU88 (Up.trans (PutR.up hP374) hU388))))))))))) (fun _ w502 hr503 => ?_)
      obtain ⟨⟨A499, c500, rfl, hD501⟩, he504⟩ := hr503
      have u505 := Ext.up he504 hm390
      have e506 := Stp.ext hE389 he504
      have hm507 := Up.mb u505
      have h508 := Own.ext h397 he504 u505 (fun _ h => h)
      refine WL.call Try.func39 rfl rfl (.cons rfl (.cons rfl (.nil))) (Units_spec _ _ (MB.none _) (Own.read00 h508 hm507) (SlD.none hD501 hm507)) (fun _ w509 hr510 => ?_)
      obtain ⟨rfl, he511⟩ := hr510
      have u512 := Ext.up he511 hm507
      have e513 := Stp.ext e506 he511
      have hm514 := Up.mb u512
      refine WL.assign rfl ?_
      refine WL.nil ?_
      refine CW.ret ?_
      refine Ret.one rfl rfl ?_
      have hall : ou4 = (fewP l) := by
        rw [hou4, hme, List.take_length, hou, ← outs_append]
        have h1_ := all_match hrg.right (outs (joinP (rowsP rows) [] (batchP (turnP (rowsP rows)) (fewP l) 0)).1) 0
        have h2_ : (T1 ++ (matchFin (rowsP rows) s1).1) = batchP (rowsP rows) (outs (joinP (rowsP rows) [] (batchP (turnP (rowsP rows)) (fewP l) 0)).1) 0 := by
          have := congrArg Prod.fst h1_
          simpa only [allP, hr1e] using this
        rw [h2_]
        exact (both hrg (rows_closed rows) _ (fewP l) 0 [] 0 (Nat.le_refl _) here).1
      exact ⟨congrArg Value.bool (decide_eq_true hall), e513⟩
end Go.Proofs.Ytgbajkdomcmblaa
