/- ISCII's example comes to true: a walk. -/
import Derived.Test.YtgbajkdomcmblaaIscG
namespace Go.Proofs.Ytgbajkdomcmblaa
open Go Go.RowKit Vc
set_option linter.unusedVariables false
set_option linter.unusedSimpArgs false
private theorem mixed : Try.prog.follows .mixedOrders = true := by kernel_rfl
private theorem fo58_2 : fieldOff Try.prog 58 2 = some 2 := by kernel_rfl
private theorem es29 : elemSize Try.prog 29 = some 1 := by kernel_rfl
private theorem es55 : elemSize Try.prog 55 = some 4 := by kernel_rfl
private theorem sc3 : scalar Try.prog 3 = true := by kernel_rfl
private theorem sc29 : scalar Try.prog 29 = true := by kernel_rfl
private theorem ag58 : aggSize Try.prog 58 = some 4 := by kernel_rfl
private theorem ti3 : tinfo Try.prog 3 = some (some (.int .i64 0), 1, 8) := by kernel_rfl
private theorem ti58 : tinfo Try.prog 58 = some (some (.agg #[.int .i64 0, .int .i64 0, .slice none 0 0, .int .i64 0]), 4, 48) := by kernel_rfl
theorem ex_take {rs : List PRule} {e : Bool} {u a x : Int} (h : tokP rs [u] a = ⟨a, 1, [x], 0⟩) (ho : (openP rs [u] && !e) = false) : takeP rs e [u] a = ([⟨a, 1, [x], 0⟩], [], a + 1) := by
  rw [take_cons (by simp) ho, h]
  simp [take_nil]
theorem ex_run : iencPut enc0 2453 = ([⟨0, 0, [239, 67], 0⟩, ⟨0, 1, [179], 0⟩], ⟨⟨[], 1, [179]⟩, 1, 1⟩) := by
  have h1 : unitOf 2453 = 21 := by decide
  have h2 : indScript 2453 = 1 := by decide
  have h3 : takeP (turnP indR) false [21] 0 = ([⟨0, 1, [179], 0⟩], [], 0 + 1) := ex_take (by kernel_rfl) (by kernel_rfl)
  have h5 : joinP indR [] [⟨0, 1, [179], 0⟩] = ([⟨0, 1, [179], 0⟩], [179]) := by kernel_rfl
  have h4 : iencPut enc0 2453 = ienSwitch enc0 2453 := by unfold iencPut; exact if_pos (by decide)
  rw [h4]
  unfold ienSwitch encFin encPut apartS encTake
  rw [h1, h2]
  simp only [enc0, take_nil, List.nil_append, h3, h5]
  rfl
theorem ex_T : ((iencPut enc0 2453).1 ++ (iencFin (iencPut enc0 2453).2).1) = [⟨0, 0, [239, 67], 0⟩, ⟨0, 1, [179], 0⟩] := by
  rw [ex_run]
  simp [iencFin, encFin, encTake, take_nil, joinP]
theorem ex_ok : encOk (iencPut enc0 2453).2.e 0 := by rw [ex_run]; exact ⟨by decide, by decide, by decide⟩
theorem ex_batch : batchP indR [239, 67, 179] 0 = [⟨0, 2, [4097], 0⟩, ⟨2, 1, [21], 0⟩] := by
  have h1 : tokP indR [239, 67, 179] 0 = ⟨0, 2, [4097], 0⟩ := by kernel_rfl
  have h2 : tokP indR [179] 2 = ⟨2, 1, [21], 0⟩ := by kernel_rfl
  rw [batch_cons _ (by simp), h1]
  simp only [show (2 : Int).toNat = 2 from rfl, List.drop_succ_cons, List.drop_zero, show (0 : Int) + 2 = 2 from rfl]
  rw [batch_cons _ (by simp), h2]
  simp [batch_nil]
theorem ex_back : outs (allP idecPut idecFin [239, 67, 179] dec0).1 = [2453] := by rw [all_idec, ex_batch]; decide
theorem ex_sc : (allP idecPut idecFin [239, 67, 179] dec0).2.sc = 1 := by rw [all_idec, ex_batch]; decide
theorem idec_put_facts {us : List Int} {T : List PTok} {s : IDec} (h : runP idecPut us dec0 = (T, s)) (u : Int) (hl : us.length ≤ 1000000) : (idecPut s u).1.length ≤ 1000000000 ∧ ∀ x ∈ (idecPut s u).1, x.out.length ≤ 8 := by
  have h1 : runP idecPut (us ++ [u]) dec0 = (T ++ (idecPut s u).1, (idecPut s u).2) := by rw [run_append, h]; simp [runP]
  have h2 := idec_facts h1
  have h3 := h2.2.2.2.2.1
  simp only [List.length_append, List.length_cons, List.length_nil] at h3
  exact ⟨by omega, fun x hx => h2.2.2.2.2.2.1 x (by simp [hx])⟩
theorem idec_fin_facts {us : List Int} {T : List PTok} {s : IDec} (h : runP idecPut us dec0 = (T, s)) (hl : us.length ≤ 1000000) : (idecFin s).1.length ≤ 1000000000 ∧ ∀ x ∈ (idecFin s).1, x.out.length ≤ 8 := by
  have hf := idec_facts h
  obtain ⟨h1, h2⟩ := fin_facts indR_good s.m
  simp only [idecFin, decStep]
  refine ⟨by rw [meanT_len]; omega, ?_⟩
  exact mean_outs _ _ h2

theorem iawake_spec (w : World) (M : MS) (hm : MB w M) :
    Fc Try.prog 40 #[] w fun v w' => v = .bool true ∧ Ext w w' := by
  have e0 := Stp.refl w (NoM : MS)
  have hs00 : Ms M M := fun _ h => h
  have hT : ((iencPut enc0 2453).1 ++ (iencFin (iencPut enc0 2453).2).1).length ≤ 100 ∧ ∀ x ∈ ((iencPut enc0 2453).1 ++ (iencFin (iencPut enc0 2453).2).1), x.out.length ≤ 8 := by rw [ex_T]; exact ⟨by decide, by decide⟩
  have hTl := hT.1
  rw [List.length_append] at hTl
  refine Fc.enter (n := 81) [] Try.func40 rfl rfl (Nat.le_of_ble_eq_true rfl) (.nil _) ?_
  refine CW.seq ?_
  refine CW.region ?_
  refine WL.assign rfl ?_
  refine WL.nil ?_
  refine CW.seq ?_
  refine CW.region ?_
  refine WL.call Try.func41 rfl rfl (.nil) (iencode_spec _ _ hm) (fun _ w1 hr2 => ?_)
  obtain ⟨g3, rfl, M4, S5, hI6, hnw7, hu8, hms9, he10⟩ := hr2
  have hI11 : IEncR g3 w1 M4 S5 enc0 := hI6
  have e12 := Stp.ext e0 he10
  have hm13 := Up.mb hu8
  have hs014 : Ms M M4 := fun k h => hms9 k (hs00 k h)
  have fr15 := Ge.le hnw7 (Stp.size e0)
  refine WL.call Try.func46 rfl rfl (.nil) (idecode_spec _ _ hm13) (fun _ w16 hr17 => ?_)
  obtain ⟨g18, rfl, M19, S20, hI21, hnw22, hu23, hms24, he25⟩ := hr17
  have hI26 : IDecR g18 w16 M19 S20 dec0 := hI21
  have e27 := Stp.ext e12 he25
  have hm28 := Up.mb hu23
  have hs029 : Ms M M19 := fun k h => hms24 k (hs014 k h)
  have dj30 := Dj.fresh (T := S5) hnw22 (IEncR.ms hI11) hm13
  have fr31 := Ge.le hnw22 (Stp.size e12)
  refine WL.assign rfl ?_
  refine WL.assign rfl ?_
  refine WL.nil ?_
  refine CW.seq ?_
  refine CW.seq ?_
  refine CW.region ?_
  refine WL.move rfl ?_
  refine WL.rn (Rn.pnil Try.underlying72 rfl) ?_
  refine WL.move rfl ?_
  refine WL.gtake rfl rfl rfl ?_
  refine WL.move rfl ?_
  refine WL.gtake rfl rfl rfl ?_
  refine WL.rn (Rn.pnil Try.underlying77 rfl) ?_
  refine WL.pickF rfl rfl ?_
  refine WL.nil ?_
  refine CW.condF rfl ?_
  refine CW.skip ?_
  refine CW.seq ?_
  refine CW.region ?_
  refine WL.assign rfl ?_
  refine WL.nil ?_
  refine CW.seq ?_
  refine CW.seq ?_
  refine CW.region ?_
  refine WL.move rfl ?_
  have mem32 : Ms S5 M19 := (fun k h => hms24 k ((IEncR.ms hI11) k h))
  have h33 := IEncR.step hI11 he25 (fun _ _ h => h) hu23 mem32
  refine WL.call Try.func43 rfl rfl (.cons rfl (.cons rfl (.nil))) (iencPut_spec _ _ hm28 h33 (ienc_ok (l := []) (T := []) (s := enc0) rfl (by decide)) 2453 (by decide)) (fun _ w34 hr35 => ?_)
  obtain ⟨M36, S37, hP38, hM39⟩ := hr35
  have hP42 : PutR w16 M19 S5 w34 M36 S37 _ ((iencPut enc0 2453).1) := hP38
  obtain ⟨A40, c41, rfl⟩ := Own.form hP42.own
  have hM43 : IEncR g3 w34 M36 S37 (iencPut enc0 2453).2 := hM39
  have e44 := Stp.wr e27 (PutR.stp hP42) (Wr.ofFr NoM fr15)
  have hm45 := Up.mb (PutR.up hP42)
  have hs046 : Ms M M36 := fun k h => (PutR.ms hP42) k (hs029 k h)
  have dj47 := Dj.grow (Dj.symm dj30) (PutR.wr hP42) (IDecR.ms hI26) hm28
  have fr49 := Ge.grow fr15 (PutR.wr hP42) (Stp.size e27)
  have ge50 := Ge.grow hnw7 (PutR.wr hP42) (Stp.size (Up.stp (Up.trans hu8 hu23)))
  have dj51 := Dj.fresh (T := S20) (PutR.new hP42) (IDecR.ms hI26) hm28
  have fr52 := Ge.le (PutR.new hP42) (Stp.size e27)
  refine WL.move rfl ?_
  refine WL.call Try.func44 rfl rfl (.cons rfl (.nil)) (iencEnd_spec _ _ hm45 hM43 (n := 0) ex_ok) (fun _ w53 hr54 => ?_)
  obtain ⟨M55, S56, hP57, hM58⟩ := hr54
  have hP61 : PutR w34 M36 S37 w53 M55 S56 _ ((iencFin (iencPut enc0 2453).2).1) := hP57
  obtain ⟨A59, c60, rfl⟩ := Own.form hP61.own
  have hM62 : IEncR g3 w53 M55 S56 (iencFin (iencPut enc0 2453).2).2 := hM58
  have e63 := Stp.wr e44 (PutR.stp hP61) (Wr.ofFr NoM fr49)
  have hm64 := Up.mb (PutR.up hP61)
  have hs065 : Ms M M55 := fun k h => (PutR.ms hP61) k (hs046 k h)
  have mem67 : Ms S20 M36 := (fun k h => (PutR.ms hP42) k ((IDecR.ms hI26) k h))
  have dj66 := Dj.grow dj47 (PutR.wr hP61) mem67 hm45
  have dj68 := Dj.grow (Dj.symm (PutR.dj hP42)) (PutR.wr hP61) (Own.ms (PutR.own hP42)) hm45
  have fr70 := Ge.grow fr49 (PutR.wr hP61) (Stp.size e44)
  have ge71 := Ge.grow ge50 (PutR.wr hP61) (Stp.size (Up.stp (Up.trans hu8 (Up.trans hu23 (PutR.up hP42)))))
  have dj72 := Dj.fresh (T := S20) (PutR.new hP61) mem67 hm45
  have dj73 := Dj.fresh (T := (ob (.slice A40 ((iencPut enc0 2453).1).length c41))) (PutR.new hP61) (Own.ms (PutR.own hP42)) hm45
  have fr74 := Ge.le (PutR.new hP61) (Stp.size e44)
  have mem84 : Ms (ob (.slice A40 ((iencPut enc0 2453).1).length c41)) M55 := (fun k h => (PutR.ms hP61) k ((Own.ms (PutR.own hP42)) k h))
  have h85 := Own.step (PutR.own hP42) (PutR.stp hP61) (PutR.dj hP42) (PutR.up hP61) mem84
  refine WL.appendR Try.underlying55 ti58 rfl (by decide) rfl rfl h85 (Own.atl (PutR.own hP61)) hm64 (by decide) (by first | omega | (simp; omega)) (fun A75 c76 w77 M78 hO79 hs80 u81 hsub82 hnew83 => ?_)
  have e86 := Stp.wr e63 hs80 (Wr.ofFr NoM fr52)
  have hm87 := Up.mb u81
  have hs088 : Ms M M78 := fun k h => hsub82 k (hs065 k h)
  have dj89 := Dj.grow (Dj.symm dj68) hnew83 (IEncR.ms hM62) hm64
  have mem91 : Ms S20 M55 := (fun k h => (PutR.ms hP61) k (mem67 k h))
  have dj90 := Dj.grow dj51 hnew83 mem91 hm64
  have dj92 := Dj.grow (Dj.symm dj73) hnew83 (Own.ms (PutR.own hP61)) hm64
  have fr94 := Ge.grow fr52 hnew83 (Stp.size e63)
  have ge95 := Ge.grow (PutR.new hP42) hnew83 (Stp.size (Up.stp (Up.trans (PutR.up hP42) (PutR.up hP61))))
  refine WL.len Try.underlying55 rfl ?_
  refine WL.move rfl ?_
  refine WL.nil ?_
  refine CW.block ?_
  have hO96 : Own IntR 1 3 w77 M78 0 (.slice none 0 0) [] := Own.nil
  have dj97 : Dj (ob (.slice none 0 0)) S56 := Dj.nil _
  have dj98 : Dj (ob (.slice none 0 0)) S20 := Dj.nil _
  have dj99 : Dj (ob (.slice none 0 0)) (ob (.slice A75 (((iencPut enc0 2453).1) ++ ((iencFin (iencPut enc0 2453).2).1)).length c76)) := Dj.nil _
  have dj100 : Dj (ob (.slice none 0 0)) (ob (.slice A59 ((iencFin (iencPut enc0 2453).2).1).length c60)) := Dj.nil _
  have mem108 : Ms S56 M78 := (fun k h => hsub82 k ((IEncR.ms hM62) k h))
  have h109 := IEncR.step hM62 hs80 dj68 u81 mem108
  have h111 := IDecR.step hI26 (PutR.stp hP42) dj30 (PutR.up hP42) mem67
  have h112 := IDecR.step h111 (PutR.stp hP61) (Dj.symm dj47) (PutR.up hP61) mem91
  have mem113 : Ms S20 M78 := (fun k h => hsub82 k (mem91 k h))
  have h114 := IDecR.step h112 hs80 (Dj.symm dj51) u81 mem113
  have mem117 : Ms (ob (.slice A59 ((iencFin (iencPut enc0 2453).2).1).length c60)) M78 := (fun k h => hsub82 k ((Own.ms (PutR.own hP61)) k h))
  have h118 := Own.step (PutR.own hP61) hs80 dj73 u81 mem117
  refine CW.loop (fun m σ wr0 => ∃ mbs : Nat, ∃ bs : List Int, ∃ Mr101 : MS, ∃ A120 : Option Addr, ∃ n121 : Nat, ∃ c122 : Nat, m = ((iencPut enc0 2453).1 ++ (iencFin (iencPut enc0 2453).2).1).length - mbs ∧ σ = [(2, .pointer (some ⟨g18, 0, none⟩)), (3, .slice A120 n121 c122), (25, .slice A75 ((((iencPut enc0 2453).1) ++ ((iencFin (iencPut enc0 2453).2).1)).length) c76), (26, .int .i64 ((((iencPut enc0 2453).1) ++ ((iencFin (iencPut enc0 2453).2).1)).length : Int)), (27, .int .i64 (mbs : Int))] ∧ (Up w77 M78 wr0 Mr101) ∧ (Stp w wr0 NoM) ∧ (Ms M78 Mr101) ∧ (Ms M Mr101) ∧ (IEncR g3 wr0 Mr101 S56 (iencFin (iencPut enc0 2453).2).2) ∧ (IDecR g18 wr0 Mr101 S20 dec0) ∧ (Own TokR 4 58 wr0 Mr101 0 (.slice A75 ((((iencPut enc0 2453).1) ++ ((iencFin (iencPut enc0 2453).2).1)).length) c76) (((iencPut enc0 2453).1) ++ ((iencFin (iencPut enc0 2453).2).1))) ∧ (Own TokR 4 58 wr0 Mr101 0 (.slice A59 (((iencFin (iencPut enc0 2453).2).1).length) c60) ((iencFin (iencPut enc0 2453).2).1)) ∧ (Own IntR 1 3 wr0 Mr101 0 (.slice A120 n121 c122) (bs)) ∧ (Ms (ob (.slice A120 n121 c122)) Mr101) ∧ (∀ q_, (ob (.slice A120 n121 c122)) q_ → w.heap.size ≤ q_) ∧ (Dj (ob (.slice A120 n121 c122)) (S56)) ∧ (Dj (ob (.slice A120 n121 c122)) (S20)) ∧ (Dj (ob (.slice A120 n121 c122)) (ob (.slice A75 (((iencPut enc0 2453).1) ++ ((iencFin (iencPut enc0 2453).2).1)).length c76))) ∧ (Dj (ob (.slice A120 n121 c122)) (ob (.slice A59 ((iencFin (iencPut enc0 2453).2).1).length c60))) ∧ (mbs ≤ ((iencPut enc0 2453).1 ++ (iencFin (iencPut enc0 2453).2).1).length) ∧ (bs = ([] : List Int) ++ outs (((iencPut enc0 2453).1 ++ (iencFin (iencPut enc0 2453).2).1).take mbs))) _ _ (.cons (t := 2) rfl (.cons (t := 3) rfl (.cons (t := 25) rfl (.cons (t := 26) rfl (.cons (t := 27) rfl (.nil _)))))) ⟨0, ([] : List Int), M78, none, 0, 0, rfl, rfl, Up.refl hm87, e86, fun _ h => h, hs088, h109, h114, hO79, h118, hO96, (Ms.nil M78), (Fr.nil w.heap.size), dj97, dj98, dj99, dj100, by omega, by simp [outs]⟩ ?_
  rintro m _ wr0 ⟨mbs, bs, Mr101, A120, n121, c122, rfl, rfl, hU102, hE103, hsp105, hsb106, h107, h110, h115, h116, h119, mem123, wr124, dj125, dj126, dj127, dj128, hmbs, hbs⟩
  have hm104 := Up.mb hU102
  have mem129 : Ms S56 Mr101 := (fun k h => hsp105 k (mem108 k h))
  have mem130 : Ms S20 Mr101 := (fun k h => hsp105 k (mem113 k h))
  have mem131 : Ms (ob (.slice A75 (((iencPut enc0 2453).1) ++ ((iencFin (iencPut enc0 2453).2).1)).length c76)) Mr101 := (fun k h => hsp105 k ((Own.ms hO79) k h))
  have hlen132 := Own.len h115
  have mem133 : Ms (ob (.slice A59 ((iencFin (iencPut enc0 2453).2).1).length c60)) Mr101 := (fun k h => hsp105 k (mem117 k h))
  have hlen134 := Own.len h116
  obtain rfl := Own.n h119
  have hlen135 := Own.len h119
  have holbs := outs_len (ts := ((iencPut enc0 2453).1 ++ (iencFin (iencPut enc0 2453).2).1).take mbs) (fun x hx => hT.2 x (List.mem_of_mem_take hx))
  have hmtbs : (((iencPut enc0 2453).1 ++ (iencFin (iencPut enc0 2453).2).1).take mbs).length ≤ mbs := by rw [List.length_take]; omega
  have hglbs : bs.length = ([] : List Int).length + (outs (((iencPut enc0 2453).1 ++ (iencFin (iencPut enc0 2453).2).1).take mbs)).length := by rw [hbs, List.length_append]
  have hb0 : ([] : List Int).length = 0 := rfl
  have hTl2 := hT.1
  refine CW.seq ?_
  refine CW.region ?_
  refine WL.lss rfl rfl ?_
  refine WL.nil ?_
  refine CW.seq ?_
  refine CW.condP rfl (fun hc136 => ?_) (fun hc136 => ?_)
  · have hmlbs : mbs < ((iencPut enc0 2453).1 ++ (iencFin (iencPut enc0 2453).2).1).length := by omega
    have hx8bs := hT.2 _ (List.getElem_mem hmlbs)
    refine CW.skip ?_
    refine CW.seq ?_
    refine CW.block ?_
    refine CW.seq ?_
    refine CW.region ?_
    have hlt137 : mbs < (((iencPut enc0 2453).1) ++ ((iencFin (iencPut enc0 2453).2).1)).length := by omega
    obtain ⟨ad138, cs139, hA140, hs141, hat142, hR143⟩ := Own.get h115 hlt137
    rw [show (((iencPut enc0 2453).1) ++ ((iencFin (iencPut enc0 2453).2).1))[mbs] = ((iencPut enc0 2453).1 ++ (iencFin (iencPut enc0 2453).2).1)[mbs] from rfl] at hR143
    obtain ⟨_, hx146, ⟨A144, c145, rfl, hD147⟩, hi148, hi149, hi150⟩ := hR143
    rw [hx146] at hat142
    have hl151 := SlD.lim hD147
    simp only [I64] at hi148 hi149 hi150
    refine WL.idx es55 rfl rfl hA140 (by omega) (by omega) ?_
    refine WL.loadAgg (M := fun _ => False) (cs := [.int .i64 (((iencPut enc0 2453).1 ++ (iencFin (iencPut enc0 2453).2).1)[mbs].at_), .int .i64 (((iencPut enc0 2453).1 ++ (iencFin (iencPut enc0 2453).2).1)[mbs].len), .slice A144 (((iencPut enc0 2453).1 ++ (iencFin (iencPut enc0 2453).2).1)[mbs].out.length) c145, .int .i64 (((iencPut enc0 2453).1 ++ (iencFin (iencPut enc0 2453).2).1)[mbs].err)]) ag58 rfl hat142 ?_
    refine WL.alloc (cs := [.int .i64 0, .int .i64 0, .slice none 0 0, .int .i64 0]) ti58 rfl (fun g152 w153 hg154 hb155 he156 => ?_)
    obtain ⟨M157, u158, mem159, hsub160, hinv161⟩ := Ext.addVar he156 hm104 hg154 hb155
    have ge162 : ∀ q_, vb g152 q_ → wr0.heap.size ≤ q_ := fun q_ hq_ => by rw [hq_]; exact hg154
    have mem163 := Ms.one mem159
    have e164 := Stp.ext hE103 he156
    have hm165 := Up.mb u158
    have hs0166 : Ms M M157 := fun k h => hsub160 k (hsb106 k h)
    have hs0167 : Ms M78 M157 := fun k h => hsub160 k (hsp105 k h)
    have dj168 := Dj.fresh (T := S56) ge162 mem129 hm104
    have dj169 := Dj.fresh (T := S20) ge162 mem130 hm104
    have dj170 := Dj.fresh (T := (ob (.slice A75 (((iencPut enc0 2453).1) ++ ((iencFin (iencPut enc0 2453).2).1)).length c76))) ge162 mem131 hm104
    have dj171 := Dj.fresh (T := (ob (.slice A59 ((iencFin (iencPut enc0 2453).2).1).length c60))) ge162 mem133 hm104
    have dj172 := Dj.fresh (T := (ob (.slice A120 bs.length c122))) ge162 mem123 hm104
    have fr173 := Ge.le ge162 (Stp.size hE103)
    refine WL.storeAll (vs := [.int .i64 (((iencPut enc0 2453).1 ++ (iencFin (iencPut enc0 2453).2).1)[mbs].at_), .int .i64 (((iencPut enc0 2453).1 ++ (iencFin (iencPut enc0 2453).2).1)[mbs].len), .slice A144 (((iencPut enc0 2453).1 ++ (iencFin (iencPut enc0 2453).2).1)[mbs].out.length) c145, .int .i64 (((iencPut enc0 2453).1 ++ (iencFin (iencPut enc0 2453).2).1)[mbs].err)]) (by rw [ti58]; rfl) rfl rfl (by simp [Value.oneCell']) hb155 rfl (fun w174 hb175 hs176 => ?_)
    have u177 := Stp.upM hs176 hm165 mem163
    have e178 := Stp.wr e164 hs176 (Wr.ofFr NoM fr173)
    have hm179 := Up.mb u177
    refine WL.nil ?_
    refine CW.region ?_
    refine WL.move rfl ?_
    refine WL.fieldAddr fo58_2 rfl ?_
    refine WL.load sc29 rfl ((Bk.at_ (M := fun _ => False) hb175 (fun h => h)).cell 2 _ rfl) ?_
    have h189 := Own.ext h119 he156 u158 hsub160
    have mem190 : Ms (ob (.slice A120 bs.length c122)) M157 := (fun k h => hsub160 k (mem123 k h))
    have h191 := Own.step h189 hs176 (Dj.symm dj172) u177 mem190
    refine WL.appendR Try.underlying29 ti3 rfl (by decide) rfl rfl h191 (Sl.atl (SlD.sl (hD147.up (Up.trans u158 u177)))) hm179 (by decide) (by first | omega | (simp; omega)) (fun A180 c181 w182 M183 hO184 hs185 u186 hsub187 hnew188 => ?_)
    have e192 := Stp.wr e178 hs185 (Wr.ofFr NoM wr124)
    have hm193 := Up.mb u186
    have hs0194 : Ms M M183 := fun k h => hsub187 k (hs0166 k h)
    have hs0195 : Ms M78 M183 := fun k h => hsub187 k (hs0167 k h)
    have mem197 : Ms S56 M157 := (fun k h => hsub160 k (mem129 k h))
    have dj196 := Dj.grow dj125 hnew188 mem197 hm179
    have mem199 : Ms S20 M157 := (fun k h => hsub160 k (mem130 k h))
    have dj198 := Dj.grow dj126 hnew188 mem199 hm179
    have mem201 : Ms (ob (.slice A75 (((iencPut enc0 2453).1) ++ ((iencFin (iencPut enc0 2453).2).1)).length c76)) M157 := (fun k h => hsub160 k (mem131 k h))
    have dj200 := Dj.grow dj127 hnew188 mem201 hm179
    have mem203 : Ms (ob (.slice A59 ((iencFin (iencPut enc0 2453).2).1).length c60)) M157 := (fun k h => hsub160 k (mem133 k h))
    have dj202 := Dj.grow dj128 hnew188 mem203 hm179
    have dj204 := Dj.grow (Dj.symm dj172) hnew188 mem163 hm179
    have fr206 := Ge.grow wr124 hnew188 (Stp.size e178)
    refine WL.assign rfl ?_
    refine WL.nil ?_
    refine CW.region ?_
    refine WL.add rfl rfl (by omega) ?_
    refine WL.move rfl ?_
    refine WL.nil ?_
    have mem207 : Ms S56 M157 := (fun k h => hsub160 k (mem129 k h))
    have h208 := IEncR.step h107 he156 (fun _ _ h => h) u158 mem207
    have h209 := IEncR.step h208 hs176 (Dj.symm dj168) u177 mem197
    have mem210 : Ms S56 M183 := (fun k h => hsub187 k (mem197 k h))
    have h211 := IEncR.step h209 hs185 (Dj.symm dj125) u186 mem210
    have mem212 : Ms S20 M157 := (fun k h => hsub160 k (mem130 k h))
    have h213 := IDecR.step h110 he156 (fun _ _ h => h) u158 mem212
    have h214 := IDecR.step h213 hs176 (Dj.symm dj169) u177 mem199
    have mem215 : Ms S20 M183 := (fun k h => hsub187 k (mem199 k h))
    have h216 := IDecR.step h214 hs185 (Dj.symm dj126) u186 mem215
    have h217 := Own.ext h115 he156 u158 hsub160
    have h218 := Own.step h217 hs176 (Dj.symm dj170) u177 mem201
    have mem219 : Ms (ob (.slice A75 (((iencPut enc0 2453).1) ++ ((iencFin (iencPut enc0 2453).2).1)).length c76)) M183 := (fun k h => hsub187 k (mem201 k h))
    have h220 := Own.step h218 hs185 (Dj.symm dj127) u186 mem219
    have h221 := Own.ext h116 he156 u158 hsub160
    have h222 := Own.step h221 hs176 (Dj.symm dj171) u177 mem203
    have mem223 : Ms (ob (.slice A59 ((iencFin (iencPut enc0 2453).2).1).length c60)) M183 := (fun k h => hsub187 k (mem203 k h))
    have h224 := Own.step h222 hs185 (Dj.symm dj128) u186 mem223
    refine Loop.again _ _ ?_ ?_ ⟨mbs + 1, bs ++ (((iencPut enc0 2453).1 ++ (iencFin (iencPut enc0 2453).2).1)[mbs].out), M183, A180, (bs ++ (((iencPut enc0 2453).1 ++ (iencFin (iencPut enc0 2453).2).1)[mbs].out)).length, c181, rfl, rfl, (Up.trans hU102 (Up.trans u158 (Up.trans u177 u186))), e192, hs0195, hs0194, h211, h216, h220, h224, hO184, (Own.ms hO184), fr206, dj196, dj198, dj200, dj202, by omega, by rw [hbs, outs_take_succ hmlbs, List.append_assoc]⟩
    · omega
    · exact .cons (t := 2) rfl (.cons (t := 3) rfl (.cons (t := 25) rfl (.cons (t := 26) rfl (.cons (t := 27) rfl (.nil _)))))
  · have hmebs : mbs = ((iencPut enc0 2453).1 ++ (iencFin (iencPut enc0 2453).2).1).length := by omega
    have hbsE : bs = [239, 67, 179] := by rw [hbs, hmebs, List.take_length, List.nil_append, ex_T]; rfl
    have hbl : bs.length = 3 := by rw [hbsE]; rfl
    have hbi : ∀ (j : Nat) (h : j < bs.length), I64 bs[j] := fun j h => by have h_ : bs[j] ∈ bs := List.getElem_mem h; generalize bs[j] = z_ at h_ ⊢; rw [hbsE] at h_; simp only [List.mem_cons, List.not_mem_nil, or_false] at h_; rcases h_ with h_ | h_ | h_ <;> (simp only [I64]; omega)
    refine CW.exit ?_
    refine CW.seq ?_
    refine CW.region ?_
    refine WL.assign rfl ?_
    refine WL.nil ?_
    refine CW.seq ?_
    refine CW.seq ?_
    refine CW.region ?_
    refine WL.move rfl ?_
    refine WL.len Try.underlying29 rfl ?_
    refine WL.move rfl ?_
    refine WL.nil ?_
    refine CW.block ?_
    have hO225 : Own IntR 1 3 wr0 Mr101 0 (.slice none 0 0) [] := Own.nil
    have dj226 : Dj (ob (.slice none 0 0)) S56 := Dj.nil _
    have dj227 : Dj (ob (.slice none 0 0)) S20 := Dj.nil _
    have dj228 : Dj (ob (.slice none 0 0)) (ob (.slice A75 (((iencPut enc0 2453).1) ++ ((iencFin (iencPut enc0 2453).2).1)).length c76)) := Dj.nil _
    have dj229 : Dj (ob (.slice none 0 0)) (ob (.slice A59 ((iencFin (iencPut enc0 2453).2).1).length c60)) := Dj.nil _
    have dj230 : Dj (ob (.slice none 0 0)) (ob (.slice A120 bs.length c122)) := Dj.nil _
    refine CW.loop (fun m σ wr2 => ∃ j : Nat, ∃ s1 : IDec, ∃ T1 : List PTok, ∃ Sg : MS, ∃ ou : List Int, ∃ Mr231 : MS, ∃ A240 : Option Addr, ∃ n241 : Nat, ∃ c242 : Nat, m = bs.length - j ∧ σ = [(2, .pointer (some ⟨g18, 0, none⟩)), (3, .slice A120 bs.length c122), (6, .slice A240 n241 c242), (36, .slice A120 bs.length c122), (37, .int .i64 (bs.length : Int)), (38, .int .i64 (j : Int))] ∧ (Up wr0 Mr101 wr2 Mr231) ∧ (Stp w wr2 NoM) ∧ (Ms Mr101 Mr231) ∧ (Ms M Mr231) ∧ (IDecR g18 wr2 Mr231 Sg s1) ∧ (Own IntR 1 3 wr2 Mr231 0 (.slice A120 bs.length c122) (bs)) ∧ (Own IntR 1 3 wr2 Mr231 0 (.slice A240 n241 c242) (ou)) ∧ (Ms (Sg) Mr231) ∧ (∀ q_, (Sg) q_ → w.heap.size ≤ q_) ∧ (Dj (Sg) (ob (.slice A120 bs.length c122))) ∧ (Dj (Sg) (ob (.slice A240 n241 c242))) ∧ (Ms (ob (.slice A240 n241 c242)) Mr231) ∧ (∀ q_, (ob (.slice A240 n241 c242)) q_ → w.heap.size ≤ q_) ∧ (Dj (ob (.slice A240 n241 c242)) (ob (.slice A120 bs.length c122))) ∧ (j ≤ bs.length) ∧ (runP idecPut (bs.take j) dec0 = (T1, s1)) ∧ (ou = outs T1)) _ _ (.cons (t := 2) rfl (.cons (t := 3) rfl (.cons (t := 6) rfl (.cons (t := 36) rfl (.cons (t := 37) rfl (.cons (t := 38) rfl (.nil _))))))) ⟨0, dec0, [], S20, [], Mr101, none, 0, 0, rfl, rfl, Up.refl hm104, hE103, fun _ h => h, hsb106, h110, h119, hO225, mem130, fr31, (Dj.symm dj126), (Dj.symm dj227), (Ms.nil Mr101), (Fr.nil w.heap.size), dj230, by omega, rfl, rfl⟩ ?_
    rintro m _ wr2 ⟨j, s1, T1, Sg, ou, Mr231, A240, n241, c242, rfl, rfl, hU232, hE233, hsp235, hsb236, h237, h238, h239, mem243, wr244, dj245, dj246, mem247, wr248, dj249, hj, hr1, hou⟩
    have hm234 := Up.mb hU232
    have mem250 : Ms (ob (.slice A120 bs.length c122)) Mr231 := (fun k h => hsp235 k (mem123 k h))
    have hlen251 := Own.len h238
    obtain rfl := Own.n h239
    have hlen252 := Own.len h239
    have hf1 := idec_facts hr1
    have hoo := outs_len hf1.2.2.2.2.2.1
    have htl : (bs.take j).length = j := by rw [List.length_take]; omega
    have hob : ou.length = (outs T1).length := by rw [hou]
    refine CW.seq ?_
    refine CW.region ?_
    refine WL.lss rfl rfl ?_
    refine WL.nil ?_
    refine CW.seq ?_
    refine CW.condP rfl (fun hc253 => ?_) (fun hc253 => ?_)
    · have hjl : j < bs.length := by omega
      have hE := idec_put_facts hr1 bs[j] (by omega)
      refine CW.skip ?_
      refine CW.seq ?_
      refine CW.block ?_
      refine CW.seq ?_
      refine CW.region ?_
      have hlt254 : j < bs.length := by omega
      obtain ⟨ad255, cs256, hA257, hs258, hat259, hR260⟩ := Own.get h238 hlt254
      rw [show _ = _ from hR260.1] at hat259
      have hhR260 := hR260.2; simp only [I64] at hhR260
      refine WL.idx es29 rfl rfl hA257 (by omega) (by omega) ?_
      refine WL.load sc3 rfl (At.cell hat259 0 _ rfl) ?_
      refine WL.assign rfl ?_
      refine WL.nil ?_
      refine CW.seq ?_
      refine CW.region ?_
      refine WL.move rfl ?_
      refine WL.move rfl ?_
      refine WL.call Try.func48 rfl rfl (.cons rfl (.cons rfl (.nil))) (idecPut_spec _ _ hm234 h237 (idec_ok hr1 (by omega)) (bs[j]) (hbi _ hjl)) (fun _ w261 hr262 => ?_)
      obtain ⟨M263, S264, hP265, hM266⟩ := hr262
      have hP269 : PutR wr2 Mr231 Sg w261 M263 S264 _ ((idecPut s1 (bs[j])).1) := hP265
      obtain ⟨A267, c268, rfl⟩ := Own.form hP269.own
      have hM270 : IDecR g18 w261 M263 S264 (idecPut s1 (bs[j])).2 := hM266
      have e271 := Stp.wr hE233 (PutR.stp hP269) (Wr.ofFr NoM wr244)
      have hm272 := Up.mb (PutR.up hP269)
      have hs0273 : Ms M M263 := fun k h => (PutR.ms hP269) k (hsb236 k h)
      have hs0274 : Ms Mr101 M263 := fun k h => (PutR.ms hP269) k (hsp235 k h)
      have dj275 := Dj.grow dj245 (PutR.wr hP269) mem250 hm234
      have dj276 := Dj.grow dj246 (PutR.wr hP269) mem247 hm234
      have fr278 := Ge.grow wr244 (PutR.wr hP269) (Stp.size hE233)
      have dj279 := Dj.fresh (T := (ob (.slice A120 bs.length c122))) (PutR.new hP269) mem250 hm234
      have dj280 := Dj.fresh (T := (ob (.slice A240 ou.length c242))) (PutR.new hP269) mem247 hm234
      have fr281 := Ge.le (PutR.new hP269) (Stp.size hE233)
      refine WL.len Try.underlying55 rfl ?_
      refine WL.move rfl ?_
      refine WL.nil ?_
      refine CW.block ?_
      have mem290 : Ms (ob (.slice A120 bs.length c122)) M263 := (fun k h => (PutR.ms hP269) k (mem250 k h))
      have h291 := Own.step h238 (PutR.stp hP269) (Dj.symm dj245) (PutR.up hP269) mem290
      have mem296 : Ms (ob (.slice A240 ou.length c242)) M263 := (fun k h => (PutR.ms hP269) k (mem247 k h))
      have h297 := Own.step h239 (PutR.stp hP269) (Dj.symm dj246) (PutR.up hP269) mem296
      refine CW.loop (fun m σ wr2 => ∃ mou2 : Nat, ∃ ou2 : List Int, ∃ Mr282 : MS, ∃ A293 : Option Addr, ∃ n294 : Nat, ∃ c295 : Nat, m = (idecPut s1 bs[j]).1.length - mou2 ∧ σ = [(2, .pointer (some ⟨g18, 0, none⟩)), (3, .slice A120 bs.length c122), (6, .slice A293 n294 c295), (36, .slice A120 bs.length c122), (37, .int .i64 (bs.length : Int)), (38, .int .i64 (j : Int)), (44, .slice A267 (((idecPut s1 (bs[j])).1).length) c268), (45, .int .i64 (((idecPut s1 (bs[j])).1).length : Int)), (46, .int .i64 (mou2 : Int))] ∧ (Up w261 M263 wr2 Mr282) ∧ (Stp w wr2 NoM) ∧ (Ms M263 Mr282) ∧ (Ms M Mr282) ∧ (IDecR g18 wr2 Mr282 S264 (idecPut s1 (bs[j])).2) ∧ (Own IntR 1 3 wr2 Mr282 0 (.slice A120 bs.length c122) (bs)) ∧ (Own IntR 1 3 wr2 Mr282 0 (.slice A293 n294 c295) (ou2)) ∧ (Own TokR 4 58 wr2 Mr282 0 (.slice A267 (((idecPut s1 (bs[j])).1).length) c268) ((idecPut s1 (bs[j])).1)) ∧ (Ms (ob (.slice A293 n294 c295)) Mr282) ∧ (∀ q_, (ob (.slice A293 n294 c295)) q_ → w.heap.size ≤ q_) ∧ (Dj (ob (.slice A293 n294 c295)) (S264)) ∧ (Dj (ob (.slice A293 n294 c295)) (ob (.slice A120 bs.length c122))) ∧ (Dj (ob (.slice A293 n294 c295)) (ob (.slice A267 ((idecPut s1 (bs[j])).1).length c268))) ∧ (mou2 ≤ (idecPut s1 bs[j]).1.length) ∧ (ou2 = ou ++ outs ((idecPut s1 bs[j]).1.take mou2))) _ _ (.cons (t := 2) rfl (.cons (t := 3) rfl (.cons (t := 6) rfl (.cons (t := 36) rfl (.cons (t := 37) rfl (.cons (t := 38) rfl (.cons (t := 44) rfl (.cons (t := 45) rfl (.cons (t := 46) rfl (.nil _)))))))))) ⟨0, ou, M263, A240, ou.length, c242, rfl, rfl, Up.refl hm272, e271, fun _ h => h, hs0273, hM270, h291, h297, (PutR.own hP269), mem296, wr248, (Dj.symm dj276), dj249, (Dj.symm dj280), by omega, by simp [outs]⟩ ?_
      rintro m _ wr2 ⟨mou2, ou2, Mr282, A293, n294, c295, rfl, rfl, hU283, hE284, hsp286, hsb287, h288, h289, h292, h298, mem299, wr300, dj301, dj302, dj303, hmou2, hou2⟩
      have hm285 := Up.mb hU283
      have hs0304 : Ms Mr101 Mr282 := fun k h => hsp286 k (hs0274 k h)
      have mem305 : Ms S264 Mr282 := (fun k h => hsp286 k ((IDecR.ms hM270) k h))
      have mem306 : Ms (ob (.slice A120 bs.length c122)) Mr282 := (fun k h => hsp286 k (mem290 k h))
      have hlen307 := Own.len h289
      obtain rfl := Own.n h292
      have hlen308 := Own.len h292
      have mem309 : Ms (ob (.slice A267 ((idecPut s1 (bs[j])).1).length c268)) Mr282 := (fun k h => hsp286 k ((Own.ms (PutR.own hP269)) k h))
      have hlen310 := Own.len h298
      have holou2 := outs_len (ts := (idecPut s1 bs[j]).1.take mou2) (fun x hx => hE.2 x (List.mem_of_mem_take hx))
      have hmtou2 : ((idecPut s1 bs[j]).1.take mou2).length ≤ mou2 := by rw [List.length_take]; omega
      have hglou2 : ou2.length = ou.length + (outs ((idecPut s1 bs[j]).1.take mou2)).length := by rw [hou2, List.length_append]
      refine CW.seq ?_
      refine CW.region ?_
      refine WL.lss rfl rfl ?_
      refine WL.nil ?_
      refine CW.seq ?_
      refine CW.condP rfl (fun hc311 => ?_) (fun hc311 => ?_)
      · have hmlou2 : mou2 < (idecPut s1 bs[j]).1.length := by omega
        have hx8ou2 := hE.2 _ (List.getElem_mem hmlou2)
        refine CW.skip ?_
        refine CW.seq ?_
        refine CW.block ?_
        refine CW.seq ?_
        refine CW.region ?_
        have hlt312 : mou2 < ((idecPut s1 (bs[j])).1).length := by omega
        obtain ⟨ad313, cs314, hA315, hs316, hat317, hR318⟩ := Own.get h298 hlt312
        rw [show ((idecPut s1 (bs[j])).1)[mou2] = (idecPut s1 bs[j]).1[mou2] from rfl] at hR318
        obtain ⟨_, hx321, ⟨A319, c320, rfl, hD322⟩, hi323, hi324, hi325⟩ := hR318
        rw [hx321] at hat317
        have hl326 := SlD.lim hD322
        simp only [I64] at hi323 hi324 hi325
        refine WL.idx es55 rfl rfl hA315 (by omega) (by omega) ?_
        refine WL.loadAgg (M := fun _ => False) (cs := [.int .i64 ((idecPut s1 bs[j]).1[mou2].at_), .int .i64 ((idecPut s1 bs[j]).1[mou2].len), .slice A319 ((idecPut s1 bs[j]).1[mou2].out.length) c320, .int .i64 ((idecPut s1 bs[j]).1[mou2].err)]) ag58 rfl hat317 ?_
        refine WL.alloc (cs := [.int .i64 0, .int .i64 0, .slice none 0 0, .int .i64 0]) ti58 rfl (fun g327 w328 hg329 hb330 he331 => ?_)
        obtain ⟨M332, u333, mem334, hsub335, hinv336⟩ := Ext.addVar he331 hm285 hg329 hb330
        have ge337 : ∀ q_, vb g327 q_ → wr2.heap.size ≤ q_ := fun q_ hq_ => by rw [hq_]; exact hg329
        have mem338 := Ms.one mem334
        have e339 := Stp.ext hE284 he331
        have hm340 := Up.mb u333
        have hs0341 : Ms M M332 := fun k h => hsub335 k (hsb287 k h)
        have hs0342 : Ms Mr101 M332 := fun k h => hsub335 k (hs0304 k h)
        have hs0343 : Ms M263 M332 := fun k h => hsub335 k (hsp286 k h)
        have dj344 := Dj.fresh (T := S264) ge337 mem305 hm285
        have dj345 := Dj.fresh (T := (ob (.slice A120 bs.length c122))) ge337 mem306 hm285
        have dj346 := Dj.fresh (T := (ob (.slice A293 ou2.length c295))) ge337 mem299 hm285
        have dj347 := Dj.fresh (T := (ob (.slice A267 ((idecPut s1 (bs[j])).1).length c268))) ge337 mem309 hm285
        have fr348 := Ge.le ge337 (Stp.size hE284)
        refine WL.storeAll (vs := [.int .i64 ((idecPut s1 bs[j]).1[mou2].at_), .int .i64 ((idecPut s1 bs[j]).1[mou2].len), .slice A319 ((idecPut s1 bs[j]).1[mou2].out.length) c320, .int .i64 ((idecPut s1 bs[j]).1[mou2].err)]) (by rw [ti58]; rfl) rfl rfl (by simp [Value.oneCell']) hb330 rfl (fun w349 hb350 hs351 => ?_)
        have u352 := Stp.upM hs351 hm340 mem338
        have e353 := Stp.wr e339 hs351 (Wr.ofFr NoM fr348)
        have hm354 := Up.mb u352
        refine WL.nil ?_
        refine CW.region ?_
        refine WL.move rfl ?_
        refine WL.fieldAddr fo58_2 rfl ?_
        refine WL.load sc29 rfl ((Bk.at_ (M := fun _ => False) hb350 (fun h => h)).cell 2 _ rfl) ?_
        have h364 := Own.ext h292 he331 u333 hsub335
        have mem365 : Ms (ob (.slice A293 ou2.length c295)) M332 := (fun k h => hsub335 k (mem299 k h))
        have h366 := Own.step h364 hs351 (Dj.symm dj346) u352 mem365
        refine WL.appendR Try.underlying29 ti3 rfl (by decide) rfl rfl h366 (Sl.atl (SlD.sl (hD322.up (Up.trans u333 u352)))) hm354 (by decide) (by first | omega | (simp; omega)) (fun A355 c356 w357 M358 hO359 hs360 u361 hsub362 hnew363 => ?_)
        have e367 := Stp.wr e353 hs360 (Wr.ofFr NoM wr300)
        have hm368 := Up.mb u361
        have hs0369 : Ms M M358 := fun k h => hsub362 k (hs0341 k h)
        have hs0370 : Ms Mr101 M358 := fun k h => hsub362 k (hs0342 k h)
        have hs0371 : Ms M263 M358 := fun k h => hsub362 k (hs0343 k h)
        have mem373 : Ms S264 M332 := (fun k h => hsub335 k (mem305 k h))
        have dj372 := Dj.grow dj301 hnew363 mem373 hm354
        have mem375 : Ms (ob (.slice A120 bs.length c122)) M332 := (fun k h => hsub335 k (mem306 k h))
        have dj374 := Dj.grow dj302 hnew363 mem375 hm354
        have mem377 : Ms (ob (.slice A267 ((idecPut s1 (bs[j])).1).length c268)) M332 := (fun k h => hsub335 k (mem309 k h))
        have dj376 := Dj.grow dj303 hnew363 mem377 hm354
        have dj378 := Dj.grow (Dj.symm dj346) hnew363 mem338 hm354
        have fr380 := Ge.grow wr300 hnew363 (Stp.size e353)
        refine WL.assign rfl ?_
        refine WL.nil ?_
        refine CW.region ?_
        refine WL.add rfl rfl (by omega) ?_
        refine WL.move rfl ?_
        refine WL.nil ?_
        have mem381 : Ms S264 M332 := (fun k h => hsub335 k (mem305 k h))
        have h382 := IDecR.step h288 he331 (fun _ _ h => h) u333 mem381
        have h383 := IDecR.step h382 hs351 (Dj.symm dj344) u352 mem373
        have mem384 : Ms S264 M358 := (fun k h => hsub362 k (mem373 k h))
        have h385 := IDecR.step h383 hs360 (Dj.symm dj301) u361 mem384
        have h386 := Own.ext h289 he331 u333 hsub335
        have h387 := Own.step h386 hs351 (Dj.symm dj345) u352 mem375
        have mem388 : Ms (ob (.slice A120 bs.length c122)) M358 := (fun k h => hsub362 k (mem375 k h))
        have h389 := Own.step h387 hs360 (Dj.symm dj302) u361 mem388
        have h390 := Own.ext h298 he331 u333 hsub335
        have h391 := Own.step h390 hs351 (Dj.symm dj347) u352 mem377
        have mem392 : Ms (ob (.slice A267 ((idecPut s1 (bs[j])).1).length c268)) M358 := (fun k h => hsub362 k (mem377 k h))
        have h393 := Own.step h391 hs360 (Dj.symm dj303) u361 mem392
        refine Loop.again _ _ ?_ ?_ ⟨mou2 + 1, ou2 ++ ((idecPut s1 bs[j]).1[mou2].out), M358, A355, (ou2 ++ ((idecPut s1 bs[j]).1[mou2].out)).length, c356, rfl, rfl, (Up.trans hU283 (Up.trans u333 (Up.trans u352 u361))), e367, hs0371, hs0369, h385, h389, hO359, h393, (Own.ms hO359), fr380, dj372, dj374, dj376, by omega, by rw [hou2, outs_take_succ hmlou2, List.append_assoc]⟩
        · omega
        · exact .cons (t := 2) rfl (.cons (t := 3) rfl (.cons (t := 6) rfl (.cons (t := 36) rfl (.cons (t := 37) rfl (.cons (t := 38) rfl (.cons (t := 44) rfl (.cons (t := 45) rfl (.cons (t := 46) rfl (.nil _)))))))))
      · have hmeou2 : mou2 = (idecPut s1 bs[j]).1.length := by omega
        refine CW.exit ?_
        refine CW.region ?_
        refine WL.add rfl rfl (by omega) ?_
        refine WL.move rfl ?_
        refine WL.nil ?_
        refine Loop.again _ _ ?_ ?_ ⟨j + 1, (idecPut s1 bs[j]).2, T1 ++ (idecPut s1 bs[j]).1, S264, ou2, Mr282, A293, ou2.length, c295, rfl, rfl, (Up.trans hU232 (Up.trans (PutR.up hP269) hU283)), hE284, hs0304, hsb287, h288, h289, h292, mem305, fr278, dj275, (Dj.symm dj301), mem299, wr300, dj302, by omega, run_take_succ _ hjl hr1, by rw [hou2, hmeou2, List.take_length, hou, outs_append]⟩
        · omega
        · exact .cons (t := 2) rfl (.cons (t := 3) rfl (.cons (t := 6) rfl (.cons (t := 36) rfl (.cons (t := 37) rfl (.cons (t := 38) rfl (.nil _))))))
    · have hje : j = bs.length := by omega
      have hrE : runP idecPut bs dec0 = (T1, s1) := by rw [← hr1, hje, List.take_length]
      have hF := idec_fin_facts hrE (by omega)
      refine CW.exit ?_
      refine CW.seq ?_
      refine CW.seq ?_
      refine CW.region ?_
      refine WL.move rfl ?_
      refine WL.call Try.func49 rfl rfl (.cons rfl (.nil)) (idecEnd_spec _ _ hm234 h237 (idec_ok hrE (by rw [hbsE]; decide))) (fun _ w394 hr395 => ?_)
      obtain ⟨M396, S397, hP398, hM399⟩ := hr395
      have hP402 : PutR wr2 Mr231 Sg w394 M396 S397 _ ((idecFin s1).1) := hP398
      obtain ⟨A400, c401, rfl⟩ := Own.form hP402.own
      have hM403 : IDecR g18 w394 M396 S397 (idecFin s1).2 := hM399
      have e404 := Stp.wr hE233 (PutR.stp hP402) (Wr.ofFr NoM wr244)
      have hm405 := Up.mb (PutR.up hP402)
      have hs0406 : Ms M M396 := fun k h => (PutR.ms hP402) k (hsb236 k h)
      have dj407 := Dj.grow dj245 (PutR.wr hP402) mem250 hm234
      have dj408 := Dj.grow dj246 (PutR.wr hP402) mem247 hm234
      have fr410 := Ge.grow wr244 (PutR.wr hP402) (Stp.size hE233)
      have dj411 := Dj.fresh (T := (ob (.slice A120 bs.length c122))) (PutR.new hP402) mem250 hm234
      have dj412 := Dj.fresh (T := (ob (.slice A240 ou.length c242))) (PutR.new hP402) mem247 hm234
      have fr413 := Ge.le (PutR.new hP402) (Stp.size hE233)
      refine WL.len Try.underlying55 rfl ?_
      refine WL.move rfl ?_
      refine WL.nil ?_
      refine CW.block ?_
      have mem422 : Ms (ob (.slice A120 bs.length c122)) M396 := (fun k h => (PutR.ms hP402) k (mem250 k h))
      have h423 := Own.step h238 (PutR.stp hP402) (Dj.symm dj245) (PutR.up hP402) mem422
      have mem428 : Ms (ob (.slice A240 ou.length c242)) M396 := (fun k h => (PutR.ms hP402) k (mem247 k h))
      have h429 := Own.step h239 (PutR.stp hP402) (Dj.symm dj246) (PutR.up hP402) mem428
      refine CW.loop (fun m σ wr3 => ∃ mou3 : Nat, ∃ ou3 : List Int, ∃ Mr414 : MS, ∃ A425 : Option Addr, ∃ n426 : Nat, ∃ c427 : Nat, m = (idecFin s1).1.length - mou3 ∧ σ = [(2, .pointer (some ⟨g18, 0, none⟩)), (3, .slice A120 bs.length c122), (6, .slice A425 n426 c427), (57, .slice A400 (((idecFin s1).1).length) c401), (58, .int .i64 (((idecFin s1).1).length : Int)), (59, .int .i64 (mou3 : Int))] ∧ (Up w394 M396 wr3 Mr414) ∧ (Stp w wr3 NoM) ∧ (Ms M396 Mr414) ∧ (Ms M Mr414) ∧ (IDecR g18 wr3 Mr414 S397 (idecFin s1).2) ∧ (Own IntR 1 3 wr3 Mr414 0 (.slice A120 bs.length c122) (bs)) ∧ (Own IntR 1 3 wr3 Mr414 0 (.slice A425 n426 c427) (ou3)) ∧ (Own TokR 4 58 wr3 Mr414 0 (.slice A400 (((idecFin s1).1).length) c401) ((idecFin s1).1)) ∧ (Ms (ob (.slice A425 n426 c427)) Mr414) ∧ (∀ q_, (ob (.slice A425 n426 c427)) q_ → w.heap.size ≤ q_) ∧ (Dj (ob (.slice A425 n426 c427)) (S397)) ∧ (Dj (ob (.slice A425 n426 c427)) (ob (.slice A120 bs.length c122))) ∧ (Dj (ob (.slice A425 n426 c427)) (ob (.slice A400 ((idecFin s1).1).length c401))) ∧ (mou3 ≤ (idecFin s1).1.length) ∧ (ou3 = ou ++ outs ((idecFin s1).1.take mou3))) _ _ (.cons (t := 2) rfl (.cons (t := 3) rfl (.cons (t := 6) rfl (.cons (t := 57) rfl (.cons (t := 58) rfl (.cons (t := 59) rfl (.nil _))))))) ⟨0, ou, M396, A240, ou.length, c242, rfl, rfl, Up.refl hm405, e404, fun _ h => h, hs0406, hM403, h423, h429, (PutR.own hP402), mem428, wr248, (Dj.symm dj408), dj249, (Dj.symm dj412), by omega, by simp [outs]⟩ ?_
      rintro m _ wr3 ⟨mou3, ou3, Mr414, A425, n426, c427, rfl, rfl, hU415, hE416, hsp418, hsb419, h420, h421, h424, h430, mem431, wr432, dj433, dj434, dj435, hmou3, hou3⟩
      have hm417 := Up.mb hU415
      have mem436 : Ms S397 Mr414 := (fun k h => hsp418 k ((IDecR.ms hM403) k h))
      have mem437 : Ms (ob (.slice A120 bs.length c122)) Mr414 := (fun k h => hsp418 k (mem422 k h))
      have hlen438 := Own.len h421
      obtain rfl := Own.n h424
      have hlen439 := Own.len h424
      have mem440 : Ms (ob (.slice A400 ((idecFin s1).1).length c401)) Mr414 := (fun k h => hsp418 k ((Own.ms (PutR.own hP402)) k h))
      have hlen441 := Own.len h430
      have holou3 := outs_len (ts := (idecFin s1).1.take mou3) (fun x hx => hF.2 x (List.mem_of_mem_take hx))
      have hmtou3 : ((idecFin s1).1.take mou3).length ≤ mou3 := by rw [List.length_take]; omega
      have hglou3 : ou3.length = ou.length + (outs ((idecFin s1).1.take mou3)).length := by rw [hou3, List.length_append]
      refine CW.seq ?_
      refine CW.region ?_
      refine WL.lss rfl rfl ?_
      refine WL.nil ?_
      refine CW.seq ?_
      refine CW.condP rfl (fun hc442 => ?_) (fun hc442 => ?_)
      · have hmlou3 : mou3 < (idecFin s1).1.length := by omega
        have hx8ou3 := hF.2 _ (List.getElem_mem hmlou3)
        refine CW.skip ?_
        refine CW.seq ?_
        refine CW.block ?_
        refine CW.seq ?_
        refine CW.region ?_
        have hlt443 : mou3 < ((idecFin s1).1).length := by omega
        obtain ⟨ad444, cs445, hA446, hs447, hat448, hR449⟩ := Own.get h430 hlt443
        rw [show ((idecFin s1).1)[mou3] = (idecFin s1).1[mou3] from rfl] at hR449
        obtain ⟨_, hx452, ⟨A450, c451, rfl, hD453⟩, hi454, hi455, hi456⟩ := hR449
        rw [hx452] at hat448
        have hl457 := SlD.lim hD453
        simp only [I64] at hi454 hi455 hi456
        refine WL.idx es55 rfl rfl hA446 (by omega) (by omega) ?_
        refine WL.loadAgg (M := fun _ => False) (cs := [.int .i64 ((idecFin s1).1[mou3].at_), .int .i64 ((idecFin s1).1[mou3].len), .slice A450 ((idecFin s1).1[mou3].out.length) c451, .int .i64 ((idecFin s1).1[mou3].err)]) ag58 rfl hat448 ?_
        refine WL.alloc (cs := [.int .i64 0, .int .i64 0, .slice none 0 0, .int .i64 0]) ti58 rfl (fun g458 w459 hg460 hb461 he462 => ?_)
        obtain ⟨M463, u464, mem465, hsub466, hinv467⟩ := Ext.addVar he462 hm417 hg460 hb461
        have ge468 : ∀ q_, vb g458 q_ → wr3.heap.size ≤ q_ := fun q_ hq_ => by rw [hq_]; exact hg460
        have mem469 := Ms.one mem465
        have e470 := Stp.ext hE416 he462
        have hm471 := Up.mb u464
        have hs0472 : Ms M M463 := fun k h => hsub466 k (hsb419 k h)
        have hs0473 : Ms M396 M463 := fun k h => hsub466 k (hsp418 k h)
        have dj474 := Dj.fresh (T := S397) ge468 mem436 hm417
        have dj475 := Dj.fresh (T := (ob (.slice A120 bs.length c122))) ge468 mem437 hm417
        have dj476 := Dj.fresh (T := (ob (.slice A425 ou3.length c427))) ge468 mem431 hm417
        have dj477 := Dj.fresh (T := (ob (.slice A400 ((idecFin s1).1).length c401))) ge468 mem440 hm417
        have fr478 := Ge.le ge468 (Stp.size hE416)
        refine WL.storeAll (vs := [.int .i64 ((idecFin s1).1[mou3].at_), .int .i64 ((idecFin s1).1[mou3].len), .slice A450 ((idecFin s1).1[mou3].out.length) c451, .int .i64 ((idecFin s1).1[mou3].err)]) (by rw [ti58]; rfl) rfl rfl (by simp [Value.oneCell']) hb461 rfl (fun w479 hb480 hs481 => ?_)
        have u482 := Stp.upM hs481 hm471 mem469
        have e483 := Stp.wr e470 hs481 (Wr.ofFr NoM fr478)
        have hm484 := Up.mb u482
        refine WL.nil ?_
        refine CW.region ?_
        refine WL.move rfl ?_
        refine WL.fieldAddr fo58_2 rfl ?_
        refine WL.load sc29 rfl ((Bk.at_ (M := fun _ => False) hb480 (fun h => h)).cell 2 _ rfl) ?_
        have h494 := Own.ext h424 he462 u464 hsub466
        have mem495 : Ms (ob (.slice A425 ou3.length c427)) M463 := (fun k h => hsub466 k (mem431 k h))
        have h496 := Own.step h494 hs481 (Dj.symm dj476) u482 mem495
        refine WL.appendR Try.underlying29 ti3 rfl (by decide) rfl rfl h496 (Sl.atl (SlD.sl (hD453.up (Up.trans u464 u482)))) hm484 (by decide) (by first | omega | (simp; omega)) (fun A485 c486 w487 M488 hO489 hs490 u491 hsub492 hnew493 => ?_)
        have e497 := Stp.wr e483 hs490 (Wr.ofFr NoM wr432)
        have hm498 := Up.mb u491
        have hs0499 : Ms M M488 := fun k h => hsub492 k (hs0472 k h)
        have hs0500 : Ms M396 M488 := fun k h => hsub492 k (hs0473 k h)
        have mem502 : Ms S397 M463 := (fun k h => hsub466 k (mem436 k h))
        have dj501 := Dj.grow dj433 hnew493 mem502 hm484
        have mem504 : Ms (ob (.slice A120 bs.length c122)) M463 := (fun k h => hsub466 k (mem437 k h))
        have dj503 := Dj.grow dj434 hnew493 mem504 hm484
        have mem506 : Ms (ob (.slice A400 ((idecFin s1).1).length c401)) M463 := (fun k h => hsub466 k (mem440 k h))
        have dj505 := Dj.grow dj435 hnew493 mem506 hm484
        have dj507 := Dj.grow (Dj.symm dj476) hnew493 mem469 hm484
        have fr509 := Ge.grow wr432 hnew493 (Stp.size e483)
        refine WL.assign rfl ?_
        refine WL.nil ?_
        refine CW.region ?_
        refine WL.add rfl rfl (by omega) ?_
        refine WL.move rfl ?_
        refine WL.nil ?_
        have mem510 : Ms S397 M463 := (fun k h => hsub466 k (mem436 k h))
        have h511 := IDecR.step h420 he462 (fun _ _ h => h) u464 mem510
        have h512 := IDecR.step h511 hs481 (Dj.symm dj474) u482 mem502
        have mem513 : Ms S397 M488 := (fun k h => hsub492 k (mem502 k h))
        have h514 := IDecR.step h512 hs490 (Dj.symm dj433) u491 mem513
        have h515 := Own.ext h421 he462 u464 hsub466
        have h516 := Own.step h515 hs481 (Dj.symm dj475) u482 mem504
        have mem517 : Ms (ob (.slice A120 bs.length c122)) M488 := (fun k h => hsub492 k (mem504 k h))
        have h518 := Own.step h516 hs490 (Dj.symm dj434) u491 mem517
        have h519 := Own.ext h430 he462 u464 hsub466
        have h520 := Own.step h519 hs481 (Dj.symm dj477) u482 mem506
        have mem521 : Ms (ob (.slice A400 ((idecFin s1).1).length c401)) M488 := (fun k h => hsub492 k (mem506 k h))
        have h522 := Own.step h520 hs490 (Dj.symm dj435) u491 mem521
        refine Loop.again _ _ ?_ ?_ ⟨mou3 + 1, ou3 ++ ((idecFin s1).1[mou3].out), M488, A485, (ou3 ++ ((idecFin s1).1[mou3].out)).length, c486, rfl, rfl, (Up.trans hU415 (Up.trans u464 (Up.trans u482 u491))), e497, hs0500, hs0499, h514, h518, hO489, h522, (Own.ms hO489), fr509, dj501, dj503, dj505, by omega, by rw [hou3, outs_take_succ hmlou3, List.append_assoc]⟩
        · omega
        · exact .cons (t := 2) rfl (.cons (t := 3) rfl (.cons (t := 6) rfl (.cons (t := 57) rfl (.cons (t := 58) rfl (.cons (t := 59) rfl (.nil _))))))
      · have hmeou3 : mou3 = (idecFin s1).1.length := by omega
        have hall : (allP idecPut idecFin bs dec0) = (T1 ++ (idecFin s1).1, (idecFin s1).2) := by simp only [allP, hrE]
        have ho3 : ou3 = [2453] := by
          rw [hou3, hmeou3, List.take_length, hou, ← outs_append]
          have hz := congrArg (fun z => outs z.1) hall
          simp only [] at hz
          rw [← hz, hbsE]; exact ex_back
        have hsc : (idecFin s1).2.sc = 1 := by
          have hz := congrArg (fun z => z.2.sc) hall
          simp only [] at hz
          rw [← hz, hbsE]; exact ex_sc
        refine CW.exit ?_
        refine CW.seq ?_
        refine CW.region ?_
        refine WL.move rfl ?_
        refine WL.bslice Try.underlying29 ti3 rfl (by decide) (by decide) (.cons rfl (.cons rfl (.cons rfl (.nil)))) rfl (by simp [Value.cells]) (fun g523 w524 hg525 hb526 he527 => ?_)
        have hD528 : SlD IntR 1 w524 Mr414 (some ⟨g523, 0, none⟩) 3 ([239, 67, 179] : List Int) := Bk.ints (xs := [239, 67, 179]) hb526 (by decide) (MB.fresh hm417 hg525) (Nat.le_of_ble_eq_true rfl)
        have u529 := Ext.up he527 hm417
        have e530 := Stp.ext hE416 he527
        have hm531 := Up.mb u529
        have h532 := Own.ext h421 he527 u529 (fun _ h => h)
        refine WL.call Try.func39 rfl rfl (.cons rfl (.cons rfl (.nil))) (Units_spec _ _ (MB.none _) (Own.read00 h532 hm531) (SlD.none hD528 hm531)) (fun _ w533 hr534 => ?_)
        obtain ⟨rfl, he535⟩ := hr534
        have u536 := Ext.up he535 hm531
        have e537 := Stp.ext e530 he535
        have hm538 := Up.mb u536
        refine WL.move rfl ?_
        have hev539 : (bs = ([239, 67, 179] : List Int)) := hbsE
        refine WL.gtake rfl rfl (decide_eq_true hev539) ?_
        refine WL.move rfl ?_
        refine WL.gtake rfl rfl (decide_eq_true hev539) ?_
        refine WL.bslice Try.underlying29 ti3 rfl (by decide) (by decide) (.cons rfl (.nil)) rfl (by simp [Value.cells]) (fun g540 w541 hg542 hb543 he544 => ?_)
        have hD545 : SlD IntR 1 w541 Mr414 (some ⟨g540, 0, none⟩) 1 ([2453] : List Int) := Bk.ints (xs := [2453]) hb543 (by decide) (MB.fresh hm538 hg542) (Nat.le_of_ble_eq_true rfl)
        have u546 := Ext.up he544 hm538
        have e547 := Stp.ext e537 he544
        have hm548 := Up.mb u546
        refine WL.gtake rfl rfl (decide_eq_true hev539) ?_
        have h549 := Own.ext h424 he527 u529 (fun _ h => h)
        have h550 := Own.ext h549 he535 u536 (fun _ h => h)
        have h551 := Own.ext h550 he544 u546 (fun _ h => h)
        refine WL.call Try.func39 rfl rfl (.cons rfl (.cons rfl (.nil))) (Units_spec _ _ (MB.none _) (Own.read00 h551 hm548) (SlD.none hD545 hm548)) (fun _ w552 hr553 => ?_)
        obtain ⟨rfl, he554⟩ := hr553
        have u555 := Ext.up he554 hm548
        have e556 := Stp.ext e547 he554
        have hm557 := Up.mb u555
        refine WL.pickT (congrArg (fun b => some (Value.bool b)) (decide_eq_true hev539)) rfl ?_
        refine WL.move rfl ?_
        have hev558 : (ou3 = ([2453] : List Int)) := ho3
        refine WL.gtake rfl rfl (decide_eq_true hev558) ?_
        refine WL.move rfl ?_
        refine WL.gtake rfl rfl (decide_eq_true hev558) ?_
        have h559 := IDecR.step h420 he527 (fun _ _ h => h) u529 mem436
        have h560 := IDecR.step h559 he535 (fun _ _ h => h) u536 mem436
        have h561 := IDecR.step h560 he544 (fun _ _ h => h) u546 mem436
        have h562 := IDecR.step h561 he554 (fun _ _ h => h) u555 mem436
        refine WL.call Try.func50 rfl rfl (.cons rfl (.nil)) (idecScript_spec _ _ hm557 h562) (fun _ w563 hr564 => ?_)
        obtain ⟨rfl, he565⟩ := hr564
        have u566 := Ext.up he565 hm557
        have e567 := Stp.ext e556 he565
        have hm568 := Up.mb u566
        refine WL.gtake rfl rfl (decide_eq_true hev558) ?_
        refine WL.eql rfl rfl ?_
        refine WL.pickT (congrArg (fun b => some (Value.bool b)) (decide_eq_true hev558)) rfl ?_
        refine WL.assign rfl ?_
        refine WL.nil ?_
        refine CW.ret ?_
        refine Ret.one rfl rfl ?_
        exact ⟨by first | rfl | exact congrArg Value.bool (decide_eq_true hsc), e567⟩
end Go.Proofs.Ytgbajkdomcmblaa
