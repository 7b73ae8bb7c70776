/- What the functions of package iscii come to: walks. -/
import Derived.Test.YtgbajkdomcmblaaIscA
namespace Go.Proofs.Ytgbajkdomcmblaa
open Go Go.RowKit Vc
set_option linter.unusedVariables false
set_option linter.unusedSimpArgs false
private theorem mixed : Try.prog.follows .mixedOrders = true := by kernel_rfl
private theorem fo122_0 : fieldOff Try.prog 122 0 = some 0 := by kernel_rfl
private theorem fo122_1 : fieldOff Try.prog 122 1 = some 1 := by kernel_rfl
private theorem fo122_2 : fieldOff Try.prog 122 2 = some 2 := by kernel_rfl
private theorem fo128_0 : fieldOff Try.prog 128 0 = some 0 := by kernel_rfl
private theorem fo128_1 : fieldOff Try.prog 128 1 = some 1 := by kernel_rfl
private theorem sc3 : scalar Try.prog 3 = true := by kernel_rfl
private theorem sc52 : scalar Try.prog 52 = true := by kernel_rfl
private theorem sc61 : scalar Try.prog 61 = true := by kernel_rfl
private theorem sc79 : scalar Try.prog 79 = true := by kernel_rfl
private theorem ti3 : tinfo Try.prog 3 = some (some (.int .i64 0), 1, 8) := by kernel_rfl
private theorem ti58 : tinfo Try.prog 58 = some (some (.agg #[.int .i64 0, .int .i64 0, .slice none 0 0, .int .i64 0]), 4, 48) := by kernel_rfl
private theorem ti79 : tinfo Try.prog 79 = some (some (.int .i64 0), 1, 8) := by kernel_rfl
theorem scalar_range {x : Int} (h : scalarB x = true) : 0 ≤ x ∧ x ≤ 1114111 := by
  unfold scalarB at h
  simp only [Bool.and_eq_true, decide_eq_true_eq] at h
  exact ⟨h.1, h.2.1⟩
theorem codes_rangeI (s : Int) (h0 : 0 ≤ s) (h9 : s < 9) : 0 ≤ codesL.getD s.toNat 0 ∧ codesL.getD s.toNat 0 ≤ 255 := by
  have h := codes_range s.toNat (by omega)
  rw [Int.toNat_natCast] at h
  exact h
theorem encEndO {g : Nat} {rs : List PRule} {w : World} {M S : MS} {s : EncS} {n : Nat} (hE : EncO g rs w M S s) (hm : MB w M) (hg : GoodR rs) (hok : encOk s n) :
    Fc Try.prog 79 #[.pointer (some ⟨g, 0, none⟩)] w fun v w' => ∃ M' S', PutR w M S w' M' S' v (encFin rs s).1 ∧ EncO g rs w' M' S' (encFin rs s).2 :=
  encEnd_spec w M hm hE hg hok.1 (by have := hok.2.1; omega) hok.2.2
theorem enc_fin_ok {s : EncS} {n : Nat} (h : encOk s n) : encOk (apartS (encFin indR s).2) n ∧ (encFin indR s).1.length ≤ 1000000000 := by
  refine ⟨?_, encOk.fin indR_good h⟩
  obtain ⟨h1, h2, h3⟩ := h
  have h4 := take_wait indR_good.turn.right true _ s.wait s.a (Nat.le_refl _)
  have h5 := lens_nonneg _ (toks_pos (rs := turnP indR) true _ s.wait s.a (Nat.le_refl _))
  have h6 : s.a + lens (takeP (turnP indR) true s.wait s.a).1 = (takeP (turnP indR) true s.wait s.a).2.2 := h4.2.2.2.1
  refine ⟨?_, ?_, by simp [apartS]⟩
  · simp only [apartS, encFin, encTake]; omega
  · have := h4.1
    simp only [apartS, encFin, encTake]; omega

theorem idecPut_spec (w : World) (M : MS) (hm : MB w M) {S : MS} {g : Nat} {s : IDec} (hR : IDecR g w M S s) (hok : idecOk s (0 + 1)) (u : Int) (hu : I64 u) :
    Fc Try.prog 48 #[.pointer (some ⟨g, 0, none⟩), .int .i64 u] w fun v w' => ∃ M' S', PutR w M S w' M' S' v (idecPut s u).1 ∧ IDecR g w' M' S' (idecPut s u).2 := by
  have e0 := Stp.refl w (S : MS)
  have hs00 : Ms M M := fun _ h => h
  obtain ⟨gd, S1, hS, hb, hSg, hD, hS1, hd1⟩ := hR
  have hmg : Ms (vb g) M := Ms.one (hS _ hSg)
  have hwe : Wr w.heap.size S (vb g) := fun q_ hq_ => .inl (by rw [hq_]; exact hSg)
  have hwm : Wr w.heap.size S S1 := fun q_ hq_ => .inl (hS1 q_ hq_)
  refine Fc.enter (n := 13) [(0, .pointer (some ⟨g, 0, none⟩)), (1, .int .i64 u)] Try.func48 rfl rfl (Nat.le_of_ble_eq_true rfl) (.cons rfl (.cons rfl (.nil _))) ?_
  refine CW.seq ?_
  refine CW.region ?_
  refine WL.assign rfl ?_
  refine WL.nil ?_
  refine CW.seq ?_
  refine CW.region ?_
  refine WL.move rfl ?_
  refine WL.move rfl ?_
  refine WL.nilCheck rfl ?_
  refine WL.fieldAddr fo128_0 rfl ?_
  refine WL.load sc52 rfl ((Bk.at_ (M := fun _ => False) hb (fun h => h)).cell 0 _ rfl) ?_
  refine WL.move rfl ?_
  obtain ⟨f1, r2, fn3, hm4, hf5, hn6, hb7, hF8⟩ := (dec_mach indR_good gd).put (u := u) (n := 0) hD hm hok.1 hu
  refine WL.invoke rfl hm4 hf5 hn6 hb7 (.cons rfl (.nil)) (hF8) (fun _ w9 hr10 => ?_)
  obtain ⟨M11, S12, hP13, hM14⟩ := hr10
  have hP17 : PutR w M S1 w9 M11 S12 _ ((matchPut indR s.m u).1) := hP13
  obtain ⟨A15, c16, rfl⟩ := Own.form hP17.own
  have hM18 : DecO gd indR w9 M11 S12 (matchPut indR s.m u).2 := hM14
  have e19 := Stp.wr e0 (PutR.stp hP17) hwm
  have hm20 := Up.mb (PutR.up hP17)
  have hs021 : Ms M M11 := fun k h => (PutR.ms hP17) k (hs00 k h)
  have dj22 := Dj.grow hd1 (PutR.wr hP17) hmg hm
  have wr23 := Wr.grow hwm (PutR.wr hP17) (Stp.size e0)
  have dj24 := Dj.fresh (T := (vb g)) (PutR.new hP17) hmg hm
  have fr25 := Ge.le (PutR.new hP17) (Stp.size e0)
  have h26 := Bk.stp hb (PutR.stp hP17) ((Dj.symm hd1) _ rfl)
  have mem27 : Ms (vb g) M11 := (fun k h => (PutR.ms hP17) k (hmg k h))
  refine WL.call Try.func81 rfl rfl (.cons rfl (.cons rfl (.nil))) (mean_spec _ _ hm20 h26 (mem27 _ rfl) (PutR.own hP17) dj24 (fun x hx => by have := EncR.take_outs indR_good _ _ _ _ (Nat.le_refl _) x hx; omega) (take_uok indR_good _ _ _ _ (Nat.le_refl _)) hok.2.1 hok.2.2) (fun _ w28 hr29 => ?_)
  obtain ⟨rfl, M30, hO31, hb32, hu33, hms34, hst35⟩ := hr29
  have e36 := Stp.wr e19 hst35 (Wr.or hwe (Wr.ofFr S fr25))
  have hm37 := Up.mb hu33
  have hs038 : Ms M M30 := fun k h => hms34 k (hs021 k h)
  refine WL.assign rfl ?_
  refine WL.nil ?_
  refine CW.ret ?_
  refine Ret.one rfl rfl ?_
  have mem39 : Ms S12 M30 := (fun k h => hms34 k ((DecO.ms hM18) k h))
  have h40 := DecO.step hM18 hst35 (Dj.or dj22 (Dj.symm (PutR.dj hP17))) hu33 mem39
  have mem41 : Ms (vb g) M30 := (fun k h => hms34 k (mem27 k h))
  exact ⟨_, _, ⟨hO31, fr25, Dj.or dj24 (PutR.dj hP17), (Up.trans (PutR.up hP17) hu33), hs038, e36, Wr.or hwe wr23⟩, gd, _, Ms.or mem41 mem39, hb32, .inl rfl, h40, fun _ h => .inr h, dj22⟩

theorem idecEnd_spec (w : World) (M : MS) (hm : MB w M) {S : MS} {g : Nat} {s : IDec} (hR : IDecR g w M S s) (hok : idecOk s 0) :
    Fc Try.prog 49 #[.pointer (some ⟨g, 0, none⟩)] w fun v w' => ∃ M' S', PutR w M S w' M' S' v (idecFin s).1 ∧ IDecR g w' M' S' (idecFin s).2 := by
  have e0 := Stp.refl w (S : MS)
  have hs00 : Ms M M := fun _ h => h
  obtain ⟨gd, S1, hS, hb, hSg, hD, hS1, hd1⟩ := hR
  have hmg : Ms (vb g) M := Ms.one (hS _ hSg)
  have hwe : Wr w.heap.size S (vb g) := fun q_ hq_ => .inl (by rw [hq_]; exact hSg)
  have hwm : Wr w.heap.size S S1 := fun q_ hq_ => .inl (hS1 q_ hq_)
  refine Fc.enter (n := 10) [(0, .pointer (some ⟨g, 0, none⟩))] Try.func49 rfl rfl (Nat.le_of_ble_eq_true rfl) (.cons rfl (.nil _)) ?_
  refine CW.seq ?_
  refine CW.region ?_
  refine WL.assign rfl ?_
  refine WL.nil ?_
  refine CW.seq ?_
  refine CW.region ?_
  refine WL.move rfl ?_
  refine WL.move rfl ?_
  refine WL.nilCheck rfl ?_
  refine WL.fieldAddr fo128_0 rfl ?_
  refine WL.load sc52 rfl ((Bk.at_ (M := fun _ => False) hb (fun h => h)).cell 0 _ rfl) ?_
  obtain ⟨f1, r2, fn3, hm4, hf5, hn6, hb7, hF8⟩ := (dec_mach indR_good gd).fin (n := 0) hD hm hok.1
  refine WL.invoke rfl hm4 hf5 hn6 hb7 (.nil) (hF8) (fun _ w9 hr10 => ?_)
  obtain ⟨M11, S12, hP13, hM14⟩ := hr10
  have hP17 : PutR w M S1 w9 M11 S12 _ ((matchFin indR s.m).1) := hP13
  obtain ⟨A15, c16, rfl⟩ := Own.form hP17.own
  have hM18 : DecO gd indR w9 M11 S12 (matchFin indR s.m).2 := hM14
  have e19 := Stp.wr e0 (PutR.stp hP17) hwm
  have hm20 := Up.mb (PutR.up hP17)
  have hs021 : Ms M M11 := fun k h => (PutR.ms hP17) k (hs00 k h)
  have dj22 := Dj.grow hd1 (PutR.wr hP17) hmg hm
  have wr23 := Wr.grow hwm (PutR.wr hP17) (Stp.size e0)
  have dj24 := Dj.fresh (T := (vb g)) (PutR.new hP17) hmg hm
  have fr25 := Ge.le (PutR.new hP17) (Stp.size e0)
  have h26 := Bk.stp hb (PutR.stp hP17) ((Dj.symm hd1) _ rfl)
  have mem27 : Ms (vb g) M11 := (fun k h => (PutR.ms hP17) k (hmg k h))
  refine WL.call Try.func81 rfl rfl (.cons rfl (.cons rfl (.nil))) (mean_spec _ _ hm20 h26 (mem27 _ rfl) (PutR.own hP17) dj24 (fun x hx => by have := EncR.take_outs indR_good _ _ _ _ (Nat.le_refl _) x hx; omega) (take_uok indR_good _ _ _ _ (Nat.le_refl _)) hok.2.1 hok.2.2) (fun _ w28 hr29 => ?_)
  obtain ⟨rfl, M30, hO31, hb32, hu33, hms34, hst35⟩ := hr29
  have e36 := Stp.wr e19 hst35 (Wr.or hwe (Wr.ofFr S fr25))
  have hm37 := Up.mb hu33
  have hs038 : Ms M M30 := fun k h => hms34 k (hs021 k h)
  refine WL.assign rfl ?_
  refine WL.nil ?_
  refine CW.ret ?_
  refine Ret.one rfl rfl ?_
  have mem39 : Ms S12 M30 := (fun k h => hms34 k ((DecO.ms hM18) k h))
  have h40 := DecO.step hM18 hst35 (Dj.or dj22 (Dj.symm (PutR.dj hP17))) hu33 mem39
  have mem41 : Ms (vb g) M30 := (fun k h => hms34 k (mem27 k h))
  exact ⟨_, _, ⟨hO31, fr25, Dj.or dj24 (PutR.dj hP17), (Up.trans (PutR.up hP17) hu33), hs038, e36, Wr.or hwe wr23⟩, gd, _, Ms.or mem41 mem39, hb32, .inl rfl, h40, fun _ h => .inr h, dj22⟩

theorem idecHeld_spec (w : World) (M : MS) (hm : MB w M) {S : MS} {g : Nat} {s : IDec} (hR : IDecR g w M S s) :
    Fc Try.prog 56 #[.pointer (some ⟨g, 0, none⟩)] w fun v w' => v = .int .i64 (s.m.1.length : Int) ∧ Ext w w' := by
  have e0 := Stp.refl w (NoM : MS)
  have hs00 : Ms M M := fun _ h => h
  obtain ⟨gd, S1, hS, hb, hSg, hD, hS1, hd1⟩ := hR
  have hmg : Ms (vb g) M := Ms.one (hS _ hSg)
  have hwe : Wr w.heap.size S (vb g) := fun q_ hq_ => .inl (by rw [hq_]; exact hSg)
  have hwm : Wr w.heap.size S S1 := fun q_ hq_ => .inl (hS1 q_ hq_)
  refine Fc.enter (n := 8) [(0, .pointer (some ⟨g, 0, none⟩))] Try.func56 rfl rfl (Nat.le_of_ble_eq_true rfl) (.cons rfl (.nil _)) ?_
  refine CW.seq ?_
  refine CW.region ?_
  refine WL.assign rfl ?_
  refine WL.nil ?_
  refine CW.seq ?_
  refine CW.region ?_
  refine WL.move rfl ?_
  refine WL.nilCheck rfl ?_
  refine WL.fieldAddr fo128_0 rfl ?_
  refine WL.load sc52 rfl ((Bk.at_ (M := fun _ => False) hb (fun h => h)).cell 0 _ rfl) ?_
  obtain ⟨r1, hm2, hF3⟩ := dec_held hD hm
  refine WL.invoke rfl hm2 Try.func74 rfl rfl (.nil) (hF3) (fun _ w4 hr5 => ?_)
  obtain ⟨rfl, he6⟩ := hr5
  have u7 := Ext.up he6 hm
  have e8 := Stp.ext e0 he6
  have hm9 := Up.mb u7
  refine WL.assign rfl ?_
  refine WL.nil ?_
  refine CW.ret ?_
  refine Ret.one rfl rfl ?_
  exact ⟨rfl, e8⟩

theorem idecScript_spec (w : World) (M : MS) (hm : MB w M) {S : MS} {g : Nat} {s : IDec} (hR : IDecR g w M S s) :
    Fc Try.prog 50 #[.pointer (some ⟨g, 0, none⟩)] w fun v w' => v = .int .i64 s.sc ∧ Ext w w' := by
  have e0 := Stp.refl w (NoM : MS)
  have hs00 : Ms M M := fun _ h => h
  obtain ⟨gd, S1, hS, hb, hSg, hD, hS1, hd1⟩ := hR
  have hmg : Ms (vb g) M := Ms.one (hS _ hSg)
  have hwe : Wr w.heap.size S (vb g) := fun q_ hq_ => .inl (by rw [hq_]; exact hSg)
  have hwm : Wr w.heap.size S S1 := fun q_ hq_ => .inl (hS1 q_ hq_)
  refine Fc.enter (n := 7) [(0, .pointer (some ⟨g, 0, none⟩))] Try.func50 rfl rfl (Nat.le_of_ble_eq_true rfl) (.cons rfl (.nil _)) ?_
  refine CW.seq ?_
  refine CW.region ?_
  refine WL.assign rfl ?_
  refine WL.nil ?_
  refine CW.seq ?_
  refine CW.region ?_
  refine WL.move rfl ?_
  refine WL.nilCheck rfl ?_
  refine WL.fieldAddr fo128_1 rfl ?_
  refine WL.load sc79 rfl ((Bk.at_ (M := fun _ => False) hb (fun h => h)).cell 1 _ rfl) ?_
  refine WL.assign rfl ?_
  refine WL.nil ?_
  refine CW.ret ?_
  refine Ret.one rfl rfl ?_
  exact ⟨rfl, e0⟩

theorem iencPut_spec (w : World) (M : MS) (hm : MB w M) {S : MS} {g : Nat} {s : IEnc} (hR : IEncR g w M S s) (hok : iencOk s (0 + 1)) (x : Int) (hx : I64 x) :
    Fc Try.prog 43 #[.pointer (some ⟨g, 0, none⟩), .int .i64 x] w fun v w' => ∃ M' S', PutR w M S w' M' S' v (iencPut s x).1 ∧ IEncR g w' M' S' (iencPut s x).2 := by
  have e0 := Stp.refl w (S : MS)
  have hs00 : Ms M M := fun _ h => h
  obtain ⟨ge, b_, S1, hS, hb, hSg, hD, hS1, hd1⟩ := hR
  have hmg : Ms (vb g) M := Ms.one (hS _ hSg)
  have hwe : Wr w.heap.size S (vb g) := fun q_ hq_ => .inl (by rw [hq_]; exact hSg)
  have hwm : Wr w.heap.size S S1 := fun q_ hq_ => .inl (hS1 q_ hq_)
  obtain ⟨hoe, hn0, hn1⟩ := hok
  obtain ⟨hof, hfl⟩ := enc_fin_ok hoe
  refine Fc.enter (n := 81) [(0, .pointer (some ⟨g, 0, none⟩)), (1, .int .i64 x)] Try.func43 rfl rfl (Nat.le_of_ble_eq_true rfl) (.cons rfl (.cons rfl (.nil _))) ?_
  refine CW.seq ?_
  refine CW.region ?_
  refine WL.assign rfl ?_
  refine WL.nil ?_
  refine CW.seq ?_
  refine CW.region ?_
  refine WL.move rfl ?_
  refine WL.call Try.func77 rfl rfl (.cons rfl .nil) (of_spec _ _ hm x) (fun _ w1 hr2 => ?_)
  obtain ⟨rfl, he3⟩ := hr2
  have u4 := Ext.up he3 hm
  have e5 := Stp.ext e0 he3
  have hm6 := Up.mb u4
  cases hio : indIs x with
  | false =>
    have hov : ofV x = .tuple #[.int .i64 0, .int .i64 0, .bool false] := by unfold ofV; rw [hio]; rfl
    rw [hov]
    refine WL.move rfl ?_
    refine WL.extract rfl rfl ?_
    refine WL.extract rfl rfl ?_
    refine WL.extract rfl rfl ?_
    refine WL.assign rfl ?_
    refine WL.assign rfl ?_
    refine WL.assign rfl ?_
    refine WL.nil ?_
    refine CW.seq ?_
    refine CW.region ?_
    refine WL.move rfl ?_
    refine WL.assign rfl ?_
    refine WL.nil ?_
    refine CW.seq ?_
    refine CW.block ?_
    refine CW.seq ?_
    refine CW.region ?_
    refine WL.move rfl ?_
    refine WL.call Try.func78 rfl rfl (.cons rfl (.nil)) (scalar_spec _ _ hm6 x) (fun _ w7 hr8 => ?_)
    obtain ⟨rfl, he9⟩ := hr8
    have u10 := Ext.up he9 hm6
    have e11 := Stp.ext e5 he9
    have hm12 := Up.mb u10
    refine WL.not_ rfl ?_
    refine WL.assign rfl ?_
    refine WL.nil ?_
    refine CW.condB rfl (fun hc13 => ?_) (fun hc13 => ?_)
    · have hsc14 : scalarB x = false := by simpa using hc13
      refine CW.region ?_
      refine WL.assign rfl ?_
      refine WL.nil ?_
      refine CW.seq ?_
      refine CW.region ?_
      refine WL.assign rfl ?_
      refine WL.nil ?_
      refine CW.seq ?_
      refine CW.seq ?_
      refine CW.region ?_
      refine WL.move rfl ?_
      refine WL.move rfl ?_
      refine WL.gskip rfl rfl rfl ?_
      refine WL.gskip rfl rfl rfl ?_
      refine WL.gskip rfl rfl rfl ?_
      refine WL.gskip rfl rfl rfl ?_
      refine WL.gskip rfl rfl rfl ?_
      refine WL.gskip rfl rfl rfl ?_
      refine WL.pickF rfl rfl ?_
      refine WL.nil ?_
      refine CW.condF rfl ?_
      refine CW.skip ?_
      refine CW.seq ?_
      refine CW.region ?_
      refine WL.move rfl ?_
      refine WL.nilCheck rfl ?_
      refine WL.fieldAddr fo122_2 rfl ?_
      have h15 := Bk.ext hb he3
      have h16 := Bk.ext h15 he9
      refine WL.load sc3 rfl ((Bk.at_ (M := fun _ => False) h16 (fun h => h)).cell 2 _ rfl) ?_
      refine WL.add rfl rfl (by omega) ?_
      refine WL.nilCheck rfl ?_
      refine WL.fieldAddr fo122_2 rfl ?_
      refine WL.store (o := 2) (by rw [ti3]; rfl) rfl rfl rfl h16 (Nat.le_of_ble_eq_true rfl) (fun w17 hb21 hs19 => ?_)
      have hb18 : Bk w17 g 122 [.pointer (some ⟨ge, 0, none⟩), .int .i64 s.sc, .int .i64 (s.n + 1), .int .i64 b_] := hb21
      have u20 := Stp.upM hs19 hm12 hmg
      have e22 := Stp.wr e11 hs19 hwe
      have hm23 := Up.mb u20
      refine WL.nil ?_
      refine CW.seq ?_
      refine CW.region ?_
      refine WL.move rfl ?_
      refine WL.move rfl ?_
      refine WL.nilCheck rfl ?_
      refine WL.fieldAddr fo122_0 rfl ?_
      refine WL.load sc61 rfl ((Bk.at_ (M := fun _ => False) hb18 (fun h => h)).cell 0 _ rfl) ?_
      refine WL.move rfl ?_
      have hun : unitOf x = -1 := by unfold unitOf; simp only [hsc14, hio]; rfl
      have mem25 : Ms S1 M := (EncR.ms hD)
      have h26 := EncR.step hD he3 (fun _ _ h => h) u4 mem25
      have h27 := EncR.step h26 he9 (fun _ _ h => h) u10 mem25
      have h28 := EncR.step h27 hs19 hd1 u20 mem25
      have hF24 := encPutO (u := -1) h28 hm23 indR_good (n := 0) hoe (by simp only [I64]; omega)
      refine WL.call Try.func31 rfl rfl (.cons rfl (.cons rfl (.nil))) (hF24) (fun _ w29 hr30 => ?_)
      obtain ⟨M31, S32, hP33, hM34⟩ := hr30
      have hP37 : PutR w17 M S1 w29 M31 S32 _ ((encPut indR s.e (-1)).1) := hP33
      obtain ⟨A35, c36, rfl⟩ := Own.form hP37.own
      have hM38 : EncO ge indR w29 M31 S32 (encPut indR s.e (-1)).2 := hM34
      have e39 := Stp.wr e22 (PutR.stp hP37) hwm
      have hm40 := Up.mb (PutR.up hP37)
      have hs041 : Ms M M31 := fun k h => (PutR.ms hP37) k (hs00 k h)
      have dj42 := Dj.grow hd1 (PutR.wr hP37) hmg hm23
      have wr43 := Wr.grow hwm (PutR.wr hP37) (Stp.size e22)
      have dj44 := Dj.fresh (T := (vb g)) (PutR.new hP37) hmg hm23
      have fr45 := Ge.le (PutR.new hP37) (Stp.size e22)
      have hpl := (encOk.put (u := (-1)) indR_good hoe).2
      refine WL.appendR Try.underlying55 ti58 rfl (by decide) rfl rfl (Own.nil (R := TokR) (sz := 4) (e := 58) (w := w29) (M := M31) (B := 0)) (Own.atl (PutR.own hP37)) hm40 (by decide) (by first | omega | (simp only [List.length_append, List.length_cons, List.length_nil]; omega)) (fun A46 c47 w48 M49 hO50 hs51 u52 hsub53 hnew54 => ?_)
      have hO57 : Own TokR 4 58 w48 M49 0 (.slice A46 ((encPut indR s.e (-1)).1).length c47) ((encPut indR s.e (-1)).1) := hO50
      have he55 : Ext w29 w48 := Stp.to hs51 (fun k h => by have h : (none : Option Nat) = some k := h; cases h)
      have ge56 : ∀ q_, (ob (.slice A46 ((encPut indR s.e (-1)).1).length c47)) q_ → w29.heap.size ≤ q_ := fun q_ hq_ => (hnew54 q_ hq_).elim (fun h => by have h : (none : Option Nat) = some q_ := h; cases h) id
      have e58 := Stp.ext e39 he55
      have hm59 := Up.mb u52
      have hs060 : Ms M M49 := fun k h => hsub53 k (hs041 k h)
      have mem62 : Ms (vb g) M31 := (fun k h => (PutR.ms hP37) k (hmg k h))
      have dj61 := Dj.fresh (T := (vb g)) ge56 mem62 hm40
      have dj63 := Dj.fresh (T := S32) ge56 (EncR.ms hM38) hm40
      have dj64 := Dj.fresh (T := (ob (.slice A35 ((encPut indR s.e (-1)).1).length c36))) ge56 (Own.ms (PutR.own hP37)) hm40
      have fr65 := Ge.le ge56 (Stp.size e39)
      refine WL.assign rfl ?_
      refine WL.nil ?_
      refine CW.ret ?_
      refine Ret.one rfl rfl ?_
      have h66 := Bk.stp hb18 (PutR.stp hP37) ((Dj.symm hd1) _ rfl)
      have h67 := Bk.ext h66 he55
      have mem68 : Ms S32 M49 := (fun k h => hsub53 k ((EncR.ms hM38) k h))
      have h69 := EncR.step hM38 he55 (fun _ _ h => h) u52 mem68
      have mem70 : Ms (vb g) M49 := (fun k h => hsub53 k (mem62 k h))
      have hfin : iencPut s x = ienPlain s (unitOf x) := by unfold iencPut; rw [hio]; rfl
      rw [hfin]
      unfold ienPlain
      rw [hun]
      exact ⟨_, _, ⟨hO57, fr65, Dj.or dj61 dj63, (Up.trans u4 (Up.trans u10 (Up.trans u20 (Up.trans (PutR.up hP37) u52)))), hs060, e58, Wr.or hwe wr43⟩, ge, _, _, Ms.or mem70 mem68, h67, .inl rfl, h69, fun _ h => .inr h, dj42⟩
    · have hsc71 : scalarB x = true := by simpa using hc13
      have hxr := scalar_range hsc71
      refine CW.seq ?_
      refine CW.region ?_
      refine WL.move rfl ?_
      refine WL.not_ rfl ?_
      refine WL.assign rfl ?_
      refine WL.nil ?_
      refine CW.condT rfl ?_
      refine CW.region ?_
      refine WL.move rfl ?_
      refine WL.add rfl rfl (by omega) ?_
      refine WL.assign rfl ?_
      refine WL.nil ?_
      refine CW.seq ?_
      refine CW.region ?_
      refine WL.assign rfl ?_
      refine WL.nil ?_
      refine CW.seq ?_
      refine CW.seq ?_
      refine CW.region ?_
      refine WL.move rfl ?_
      refine WL.move rfl ?_
      refine WL.gskip rfl rfl rfl ?_
      refine WL.gskip rfl rfl rfl ?_
      refine WL.gskip rfl rfl rfl ?_
      refine WL.gskip rfl rfl rfl ?_
      refine WL.gskip rfl rfl rfl ?_
      refine WL.gskip rfl rfl rfl ?_
      refine WL.pickF rfl rfl ?_
      refine WL.nil ?_
      refine CW.condF rfl ?_
      refine CW.skip ?_
      refine CW.seq ?_
      refine CW.region ?_
      refine WL.move rfl ?_
      refine WL.nilCheck rfl ?_
      refine WL.fieldAddr fo122_2 rfl ?_
      have h72 := Bk.ext hb he3
      have h73 := Bk.ext h72 he9
      refine WL.load sc3 rfl ((Bk.at_ (M := fun _ => False) h73 (fun h => h)).cell 2 _ rfl) ?_
      refine WL.add rfl rfl (by omega) ?_
      refine WL.nilCheck rfl ?_
      refine WL.fieldAddr fo122_2 rfl ?_
      refine WL.store (o := 2) (by rw [ti3]; rfl) rfl rfl rfl h73 (Nat.le_of_ble_eq_true rfl) (fun w74 hb78 hs76 => ?_)
      have hb75 : Bk w74 g 122 [.pointer (some ⟨ge, 0, none⟩), .int .i64 s.sc, .int .i64 (s.n + 1), .int .i64 b_] := hb78
      have u77 := Stp.upM hs76 hm12 hmg
      have e79 := Stp.wr e11 hs76 hwe
      have hm80 := Up.mb u77
      refine WL.nil ?_
      refine CW.seq ?_
      refine CW.region ?_
      refine WL.move rfl ?_
      refine WL.move rfl ?_
      refine WL.nilCheck rfl ?_
      refine WL.fieldAddr fo122_0 rfl ?_
      refine WL.load sc61 rfl ((Bk.at_ (M := fun _ => False) hb75 (fun h => h)).cell 0 _ rfl) ?_
      refine WL.move rfl ?_
      have hun : unitOf x = 8192 + x := by unfold unitOf; simp only [hsc71, hio]; rfl
      have mem82 : Ms S1 M := (EncR.ms hD)
      have h83 := EncR.step hD he3 (fun _ _ h => h) u4 mem82
      have h84 := EncR.step h83 he9 (fun _ _ h => h) u10 mem82
      have h85 := EncR.step h84 hs76 hd1 u77 mem82
      have hF81 := encPutO (u := 8192 + x) h85 hm80 indR_good (n := 0) hoe (by simp only [I64]; omega)
      refine WL.call Try.func31 rfl rfl (.cons rfl (.cons rfl (.nil))) (hF81) (fun _ w86 hr87 => ?_)
      obtain ⟨M88, S89, hP90, hM91⟩ := hr87
      have hP94 : PutR w74 M S1 w86 M88 S89 _ ((encPut indR s.e (8192 + x)).1) := hP90
      obtain ⟨A92, c93, rfl⟩ := Own.form hP94.own
      have hM95 : EncO ge indR w86 M88 S89 (encPut indR s.e (8192 + x)).2 := hM91
      have e96 := Stp.wr e79 (PutR.stp hP94) hwm
      have hm97 := Up.mb (PutR.up hP94)
      have hs098 : Ms M M88 := fun k h => (PutR.ms hP94) k (hs00 k h)
      have dj99 := Dj.grow hd1 (PutR.wr hP94) hmg hm80
      have wr100 := Wr.grow hwm (PutR.wr hP94) (Stp.size e79)
      have dj101 := Dj.fresh (T := (vb g)) (PutR.new hP94) hmg hm80
      have fr102 := Ge.le (PutR.new hP94) (Stp.size e79)
      have hpl := (encOk.put (u := (8192 + x)) indR_good hoe).2
      refine WL.appendR Try.underlying55 ti58 rfl (by decide) rfl rfl (Own.nil (R := TokR) (sz := 4) (e := 58) (w := w86) (M := M88) (B := 0)) (Own.atl (PutR.own hP94)) hm97 (by decide) (by first | omega | (simp only [List.length_append, List.length_cons, List.length_nil]; omega)) (fun A103 c104 w105 M106 hO107 hs108 u109 hsub110 hnew111 => ?_)
      have hO114 : Own TokR 4 58 w105 M106 0 (.slice A103 ((encPut indR s.e (8192 + x)).1).length c104) ((encPut indR s.e (8192 + x)).1) := hO107
      have he112 : Ext w86 w105 := Stp.to hs108 (fun k h => by have h : (none : Option Nat) = some k := h; cases h)
      have ge113 : ∀ q_, (ob (.slice A103 ((encPut indR s.e (8192 + x)).1).length c104)) q_ → w86.heap.size ≤ q_ := fun q_ hq_ => (hnew111 q_ hq_).elim (fun h => by have h : (none : Option Nat) = some q_ := h; cases h) id
      have e115 := Stp.ext e96 he112
      have hm116 := Up.mb u109
      have hs0117 : Ms M M106 := fun k h => hsub110 k (hs098 k h)
      have mem119 : Ms (vb g) M88 := (fun k h => (PutR.ms hP94) k (hmg k h))
      have dj118 := Dj.fresh (T := (vb g)) ge113 mem119 hm97
      have dj120 := Dj.fresh (T := S89) ge113 (EncR.ms hM95) hm97
      have dj121 := Dj.fresh (T := (ob (.slice A92 ((encPut indR s.e (8192 + x)).1).length c93))) ge113 (Own.ms (PutR.own hP94)) hm97
      have fr122 := Ge.le ge113 (Stp.size e96)
      refine WL.assign rfl ?_
      refine WL.nil ?_
      refine CW.ret ?_
      refine Ret.one rfl rfl ?_
      have h123 := Bk.stp hb75 (PutR.stp hP94) ((Dj.symm hd1) _ rfl)
      have h124 := Bk.ext h123 he112
      have mem125 : Ms S89 M106 := (fun k h => hsub110 k ((EncR.ms hM95) k h))
      have h126 := EncR.step hM95 he112 (fun _ _ h => h) u109 mem125
      have mem127 : Ms (vb g) M106 := (fun k h => hsub110 k (mem119 k h))
      have hfin : iencPut s x = ienPlain s (unitOf x) := by unfold iencPut; rw [hio]; rfl
      rw [hfin]
      unfold ienPlain
      rw [hun]
      exact ⟨_, _, ⟨hO114, fr122, Dj.or dj118 dj120, (Up.trans u4 (Up.trans u10 (Up.trans u77 (Up.trans (PutR.up hP94) u109)))), hs0117, e115, Wr.or hwe wr100⟩, ge, _, _, Ms.or mem127 mem125, h124, .inl rfl, h126, fun _ h => .inr h, dj99⟩
  | true =>
    have hsr := script_range hio
    have hov : ofV x = .tuple #[.int .i64 (indScript x), .int .i64 (indPlace x), .bool true] := by unfold ofV; rw [hio]; rfl
    rw [hov]
    refine WL.move rfl ?_
    refine WL.extract rfl rfl ?_
    refine WL.extract rfl rfl ?_
    refine WL.extract rfl rfl ?_
    refine WL.assign rfl ?_
    refine WL.assign rfl ?_
    refine WL.assign rfl ?_
    refine WL.nil ?_
    refine CW.seq ?_
    refine CW.region ?_
    refine WL.move rfl ?_
    refine WL.assign rfl ?_
    refine WL.nil ?_
    refine CW.seq ?_
    refine CW.block ?_
    refine CW.seq ?_
    refine CW.region ?_
    refine WL.move rfl ?_
    refine WL.call Try.func78 rfl rfl (.cons rfl (.nil)) (scalar_spec _ _ hm6 x) (fun _ w128 hr129 => ?_)
    obtain ⟨rfl, he130⟩ := hr129
    have u131 := Ext.up he130 hm6
    have e132 := Stp.ext e5 he130
    have hm133 := Up.mb u131
    refine WL.not_ rfl ?_
    refine WL.assign rfl ?_
    refine WL.nil ?_
    refine CW.condB rfl (fun hc134 => ?_) (fun hc134 => ?_)
    · have hsc135 : scalarB x = false := by simpa using hc134
      refine CW.region ?_
      refine WL.assign rfl ?_
      refine WL.nil ?_
      refine CW.seq ?_
      refine CW.region ?_
      refine WL.assign rfl ?_
      refine WL.nil ?_
      refine CW.seq ?_
      refine CW.seq ?_
      refine CW.region ?_
      refine WL.move rfl ?_
      refine WL.move rfl ?_
      refine WL.gtake rfl rfl rfl ?_
      refine WL.move rfl ?_
      refine WL.gtake rfl rfl rfl ?_
      refine WL.move rfl ?_
      refine WL.gtake rfl rfl rfl ?_
      refine WL.nilCheck rfl ?_
      refine WL.gtake rfl rfl rfl ?_
      refine WL.fieldAddr fo122_1 rfl ?_
      refine WL.gtake rfl rfl rfl ?_
      have h136 := Bk.ext hb he3
      have h137 := Bk.ext h136 he130
      refine WL.load sc79 rfl ((Bk.at_ (M := fun _ => False) h137 (fun h => h)).cell 1 _ rfl) ?_
      refine WL.gtake rfl rfl rfl ?_
      refine WL.neq rfl rfl ?_
      refine WL.pickT rfl rfl ?_
      refine WL.nil ?_
      refine CW.condP rfl (fun hc138 => ?_) (fun hc138 => ?_)
      · refine CW.seq ?_
        refine CW.region ?_
        refine WL.move rfl ?_
        refine WL.nilCheck rfl ?_
        refine WL.fieldAddr fo122_0 rfl ?_
        refine WL.load sc61 rfl ((Bk.at_ (M := fun _ => False) h137 (fun h => h)).cell 0 _ rfl) ?_
        have mem140 : Ms S1 M := (EncR.ms hD)
        have h141 := EncR.step hD he3 (fun _ _ h => h) u4 mem140
        have h142 := EncR.step h141 he130 (fun _ _ h => h) u131 mem140
        have hF139 := encEndO h142 hm133 indR_good hoe
        refine WL.call Try.func79 rfl rfl (.cons rfl (.nil)) (hF139) (fun _ w143 hr144 => ?_)
        obtain ⟨M145, S146, hP147, hM148⟩ := hr144
        have hP151 : PutR w128 M S1 w143 M145 S146 _ ((encFin indR s.e).1) := hP147
        obtain ⟨A149, c150, rfl⟩ := Own.form hP151.own
        have hM152 : EncO ge indR w143 M145 S146 (encFin indR s.e).2 := hM148
        have e153 := Stp.wr e132 (PutR.stp hP151) hwm
        have hm154 := Up.mb (PutR.up hP151)
        have hs0155 : Ms M M145 := fun k h => (PutR.ms hP151) k (hs00 k h)
        have dj156 := Dj.grow hd1 (PutR.wr hP151) hmg hm133
        have wr157 := Wr.grow hwm (PutR.wr hP151) (Stp.size e132)
        have dj158 := Dj.fresh (T := (vb g)) (PutR.new hP151) hmg hm133
        have fr159 := Ge.le (PutR.new hP151) (Stp.size e132)
        refine WL.assign rfl ?_
        refine WL.nil ?_
        refine CW.seq ?_
        refine CW.region ?_
        refine WL.move rfl ?_
        refine WL.call Try.func80 rfl rfl (.cons rfl (.nil)) (code_spec _ _ hm154 (s_ := indScript x) (by omega) (by omega)) (fun _ w160 hr161 => ?_)
        obtain ⟨rfl, he162⟩ := hr161
        have u163 := Ext.up he162 hm154
        have e164 := Stp.ext e153 he162
        have hm165 := Up.mb u163
        have hcr := codes_rangeI (indScript x) (by omega) (by omega)
        refine WL.move rfl ?_
        refine WL.extract rfl rfl ?_
        refine WL.extract rfl rfl ?_
        refine WL.assign rfl ?_
        refine WL.assign rfl ?_
        refine WL.nil ?_
        refine CW.seq ?_
        refine CW.region ?_
        refine WL.move rfl ?_
        refine WL.move rfl ?_
        refine WL.nilCheck rfl ?_
        refine WL.fieldAddr fo122_1 rfl ?_
        have h170 := Bk.stp h137 (PutR.stp hP151) ((Dj.symm hd1) _ rfl)
        have h171 := Bk.ext h170 he162
        have mem172 : Ms (vb g) M145 := (fun k h => (PutR.ms hP151) k (hmg k h))
        refine WL.store (o := 1) (by rw [ti79]; rfl) rfl rfl rfl h171 (Nat.le_of_ble_eq_true rfl) (fun w166 hb173 hs168 => ?_)
        have hb167 : Bk w166 g 122 [.pointer (some ⟨ge, 0, none⟩), .int .i64 (indScript x), .int .i64 s.n, .int .i64 b_] := hb173
        have u169 := Stp.upM hs168 hm165 mem172
        have e174 := Stp.wr e164 hs168 hwe
        have hm175 := Up.mb u169
        refine WL.nil ?_
        refine CW.seq ?_
        refine CW.region ?_
        refine WL.move rfl ?_
        refine WL.nilCheck rfl ?_
        refine WL.fieldAddr fo122_0 rfl ?_
        refine WL.load sc61 rfl ((Bk.at_ (M := fun _ => False) hb167 (fun h => h)).cell 0 _ rfl) ?_
        have mem176 : Ms S146 M145 := (EncR.ms hM152)
        have h177 := EncR.step hM152 he162 (fun _ _ h => h) u163 mem176
        have h178 := EncR.step h177 hs168 dj156 u169 mem176
        refine WL.call Try.func37 rfl rfl (.cons rfl (.nil)) (encApart_spec _ _ hm175 h178) (fun _ w179 hr180 => ?_)
        obtain ⟨M181, S182, hE183, hu184, hms185, hst186, hwr187⟩ := hr180
        have e188 := Stp.wr e174 hst186 wr157
        have hm189 := Up.mb hu184
        have hs0190 : Ms M M181 := fun k h => hms185 k (hs0155 k h)
        have hE191 : EncO ge indR w179 M181 S182 (apartS (encFin indR s.e).2) := hE183
        have dj192 := Dj.grow dj156 hwr187 mem172 hm175
        have mem194 : Ms (ob (.slice A149 ((encFin indR s.e).1).length c150)) M145 := (Own.ms (PutR.own hP151))
        have dj193 := Dj.grow (Dj.symm (PutR.dj hP151)) hwr187 mem194 hm175
        have wr195 := Wr.grow wr157 hwr187 (Stp.size e174)
        refine WL.nil ?_
        refine CW.region ?_
        refine WL.move rfl ?_
        refine WL.move rfl ?_
        refine WL.nilCheck rfl ?_
        refine WL.fieldAddr fo122_2 rfl ?_
        have h196 := Bk.stp hb167 hst186 ((Dj.symm dj156) _ rfl)
        refine WL.load sc3 rfl ((Bk.at_ (M := fun _ => False) h196 (fun h => h)).cell 2 _ rfl) ?_
        refine WL.move rfl ?_
        refine WL.bslice Try.underlying29 ti3 rfl (by decide) (by decide) (.cons rfl (.cons rfl (.nil))) rfl (by simp [Value.cells]) (fun g197 w198 hg199 hb200 he201 => ?_)
        have hD202 : SlD IntR 1 w198 M181 (some ⟨g197, 0, none⟩) 2 ([239, codesL.getD (indScript x).toNat 0] : List Int) := Bk.ints (xs := [239, codesL.getD (indScript x).toNat 0]) hb200 (by intro x_ hx_; simp only [List.mem_cons, List.not_mem_nil, or_false] at hx_; rcases hx_ with rfl | rfl <;> (simp only [I64]; omega)) (MB.fresh hm189 hg199) (Nat.le_of_ble_eq_true rfl)
        have u203 := Ext.up he201 hm189
        have e204 := Stp.ext e188 he201
        have hm205 := Up.mb u203
        refine WL.buildP (cs := #[.int .i64 s.n, .int .i64 0, .slice (some ⟨g197, 0, none⟩) 2 2, .int .i64 0]) (.cons rfl (.cons rfl (.nil))) (by kernel_rfl) ?_
        refine WL.bslice1 (R := TokR) (y' := (⟨s.n, 0, ([239, codesL.getD (indScript x).toNat 0] : List Int), 0⟩ : PTok)) Try.underlying55 ti58 rfl (by decide) (by decide) rfl ⟨_, rfl, (SlD.sl hD202), by simp only [I64]; omega, by simp only [I64]; omega, by simp only [I64]; omega⟩ rfl hm205 (fun v206 w207 hS208 he209 => ?_)
        obtain ⟨A210, c211, rfl, hD212⟩ := hS208
        have u213 := Ext.up he209 hm205
        have e214 := Stp.ext e204 he209
        have hm215 := Up.mb u213
        have h225 := Own.ext (PutR.own hP151) he162 u163 (fun _ h => h)
        have h226 := Own.step h225 hs168 dj158 u169 mem194
        have mem227 : Ms (ob (.slice A149 ((encFin indR s.e).1).length c150)) M181 := (fun k h => hms185 k (mem194 k h))
        have h228 := Own.step h226 hst186 (PutR.dj hP151) hu184 mem227
        have h229 := Own.ext h228 he201 u203 (fun _ h => h)
        have h230 := Own.ext h229 he209 u213 (fun _ h => h)
        refine WL.appendR Try.underlying55 ti58 rfl (by decide) rfl rfl h230 (Sl.atl (SlD.sl hD212)) hm215 (by decide) (by first | omega | (simp only [List.length_append, List.length_cons, List.length_nil]; omega)) (fun A216 c217 w218 M219 hO220 hs221 u222 hsub223 hnew224 => ?_)
        have e231 := Stp.wr e214 hs221 (Wr.ofFr S fr159)
        have hm232 := Up.mb u222
        have hs0233 : Ms M M219 := fun k h => hsub223 k (hs0190 k h)
        have mem235 : Ms (vb g) M181 := (fun k h => hms185 k (mem172 k h))
        have dj234 := Dj.grow dj158 hnew224 mem235 hm215
        have mem237 : Ms S182 M181 := (EncR.ms hE191)
        have dj236 := Dj.grow (Dj.symm dj193) hnew224 mem237 hm215
        have fr239 := Ge.grow fr159 hnew224 (Stp.size e214)
        have ge240 := Ge.grow (PutR.new hP151) hnew224 (Stp.size (Up.stp (Up.trans (PutR.up hP151) (Up.trans u163 (Up.trans u169 (Up.trans hu184 (Up.trans u203 u213)))))))
        refine WL.assign rfl ?_
        refine WL.nil ?_
        refine CW.seq ?_
        refine CW.region ?_
        refine WL.move rfl ?_
        refine WL.nilCheck rfl ?_
        refine WL.fieldAddr fo122_2 rfl ?_
        have h241 := Bk.ext h196 he201
        have h242 := Bk.ext h241 he209
        have h243 := Bk.stp h242 hs221 ((Dj.symm dj158) _ rfl)
        refine WL.load sc3 rfl ((Bk.at_ (M := fun _ => False) h243 (fun h => h)).cell 2 _ rfl) ?_
        refine WL.add rfl rfl (by omega) ?_
        refine WL.nilCheck rfl ?_
        refine WL.fieldAddr fo122_2 rfl ?_
        have mem248 : Ms (vb g) M219 := (fun k h => hsub223 k (mem235 k h))
        refine WL.store (o := 2) (by rw [ti3]; rfl) rfl rfl rfl h243 (Nat.le_of_ble_eq_true rfl) (fun w244 hb249 hs246 => ?_)
        have hb245 : Bk w244 g 122 [.pointer (some ⟨ge, 0, none⟩), .int .i64 (indScript x), .int .i64 (s.n + 1), .int .i64 b_] := hb249
        have u247 := Stp.upM hs246 hm232 mem248
        have e250 := Stp.wr e231 hs246 hwe
        have hm251 := Up.mb u247
        refine WL.nil ?_
        refine CW.seq ?_
        refine CW.region ?_
        refine WL.move rfl ?_
        refine WL.move rfl ?_
        refine WL.nilCheck rfl ?_
        refine WL.fieldAddr fo122_0 rfl ?_
        refine WL.load sc61 rfl ((Bk.at_ (M := fun _ => False) hb245 (fun h => h)).cell 0 _ rfl) ?_
        refine WL.move rfl ?_
        have hun : unitOf x = -1 := by unfold unitOf; simp only [hsc135, hio]; rfl
        have mem253 : Ms S182 M181 := (EncR.ms hE191)
        have h254 := EncR.step hE191 he201 (fun _ _ h => h) u203 mem253
        have h255 := EncR.step h254 he209 (fun _ _ h => h) u213 mem237
        have mem256 : Ms S182 M219 := (fun k h => hsub223 k (mem237 k h))
        have h257 := EncR.step h255 hs221 dj193 u222 mem256
        have h258 := EncR.step h257 hs246 dj192 u247 mem256
        have hF252 := encPutO (u := -1) h258 hm251 indR_good (n := 0) hof (by simp only [I64]; omega)
        refine WL.call Try.func31 rfl rfl (.cons rfl (.cons rfl (.nil))) (hF252) (fun _ w259 hr260 => ?_)
        obtain ⟨M261, S262, hP263, hM264⟩ := hr260
        have hP267 : PutR w244 M219 S182 w259 M261 S262 _ ((encPut indR (apartS (encFin indR s.e).2) (-1)).1) := hP263
        obtain ⟨A265, c266, rfl⟩ := Own.form hP267.own
        have hM268 : EncO ge indR w259 M261 S262 (encPut indR (apartS (encFin indR s.e).2) (-1)).2 := hM264
        have e269 := Stp.wr e250 (PutR.stp hP267) wr195
        have hm270 := Up.mb (PutR.up hP267)
        have hs0271 : Ms M M261 := fun k h => (PutR.ms hP267) k (hs0233 k h)
        have dj272 := Dj.grow dj192 (PutR.wr hP267) mem248 hm251
        have mem274 : Ms (ob (.slice A216 (((encFin indR s.e).1) ++ [(⟨s.n, 0, ([239, codesL.getD (indScript x).toNat 0] : List Int), 0⟩ : PTok)]).length c217)) M219 := (Own.ms hO220)
        have dj273 := Dj.grow (Dj.symm dj236) (PutR.wr hP267) mem274 hm251
        have wr275 := Wr.grow wr195 (PutR.wr hP267) (Stp.size e250)
        have dj276 := Dj.fresh (T := (vb g)) (PutR.new hP267) mem248 hm251
        have dj277 := Dj.fresh (T := (ob (.slice A216 (((encFin indR s.e).1) ++ [(⟨s.n, 0, ([239, codesL.getD (indScript x).toNat 0] : List Int), 0⟩ : PTok)]).length c217))) (PutR.new hP267) mem274 hm251
        have fr278 := Ge.le (PutR.new hP267) (Stp.size e250)
        have hpl := (encOk.put (u := (-1)) indR_good hof).2
        have h288 := Own.step hO220 hs246 dj234 u247 mem274
        have mem289 : Ms (ob (.slice A216 (((encFin indR s.e).1) ++ [(⟨s.n, 0, ([239, codesL.getD (indScript x).toNat 0] : List Int), 0⟩ : PTok)]).length c217)) M261 := (fun k h => (PutR.ms hP267) k (mem274 k h))
        have h290 := Own.step h288 (PutR.stp hP267) dj236 (PutR.up hP267) mem289
        refine WL.appendR Try.underlying55 ti58 rfl (by decide) rfl rfl h290 (Own.atl (PutR.own hP267)) hm270 (by decide) (by first | omega | (simp only [List.length_append, List.length_cons, List.length_nil]; omega)) (fun A279 c280 w281 M282 hO283 hs284 u285 hsub286 hnew287 => ?_)
        have e291 := Stp.wr e269 hs284 (Wr.ofFr S fr239)
        have hm292 := Up.mb u285
        have hs0293 : Ms M M282 := fun k h => hsub286 k (hs0271 k h)
        have mem295 : Ms (vb g) M261 := (fun k h => (PutR.ms hP267) k (mem248 k h))
        have dj294 := Dj.grow dj234 hnew287 mem295 hm270
        have dj296 := Dj.grow (Dj.symm dj273) hnew287 (EncR.ms hM268) hm270
        have dj297 := Dj.grow (Dj.symm dj277) hnew287 (Own.ms (PutR.own hP267)) hm270
        have fr299 := Ge.grow fr239 hnew287 (Stp.size e269)
        have ge300 := Ge.grow ge240 hnew287 (Stp.size (Up.stp (Up.trans (PutR.up hP151) (Up.trans u163 (Up.trans u169 (Up.trans hu184 (Up.trans u203 (Up.trans u213 (Up.trans u222 (Up.trans u247 (PutR.up hP267)))))))))))
        refine WL.assign rfl ?_
        refine WL.nil ?_
        refine CW.ret ?_
        refine Ret.one rfl rfl ?_
        have h301 := Bk.stp hb245 (PutR.stp hP267) ((Dj.symm dj192) _ rfl)
        have h302 := Bk.stp h301 hs284 ((Dj.symm dj234) _ rfl)
        have mem303 : Ms S262 M282 := (fun k h => hsub286 k ((EncR.ms hM268) k h))
        have h304 := EncR.step hM268 hs284 dj273 u285 mem303
        have mem305 : Ms (vb g) M282 := (fun k h => hsub286 k (mem295 k h))
        have hfin : iencPut s x = ienSwitch s x := by unfold iencPut; rw [hio, Bool.true_and]; exact if_pos (decide_eq_true (by assumption))
        rw [hfin]
        unfold ienSwitch switchTok
        rw [hun]
        exact ⟨_, _, ⟨hO283, fr299, Dj.or dj294 dj296, (Up.trans u4 (Up.trans u131 (Up.trans (PutR.up hP151) (Up.trans u163 (Up.trans u169 (Up.trans hu184 (Up.trans u203 (Up.trans u213 (Up.trans u222 (Up.trans u247 (Up.trans (PutR.up hP267) u285))))))))))), hs0293, e291, Wr.or hwe wr275⟩, ge, _, _, Ms.or mem305 mem303, h302, .inl rfl, h304, fun _ h => .inr h, dj272⟩
      · refine CW.skip ?_
        refine CW.seq ?_
        refine CW.region ?_
        refine WL.move rfl ?_
        refine WL.nilCheck rfl ?_
        refine WL.fieldAddr fo122_2 rfl ?_
        refine WL.load sc3 rfl ((Bk.at_ (M := fun _ => False) h137 (fun h => h)).cell 2 _ rfl) ?_
        refine WL.add rfl rfl (by omega) ?_
        refine WL.nilCheck rfl ?_
        refine WL.fieldAddr fo122_2 rfl ?_
        refine WL.store (o := 2) (by rw [ti3]; rfl) rfl rfl rfl h137 (Nat.le_of_ble_eq_true rfl) (fun w306 hb310 hs308 => ?_)
        have hb307 : Bk w306 g 122 [.pointer (some ⟨ge, 0, none⟩), .int .i64 s.sc, .int .i64 (s.n + 1), .int .i64 b_] := hb310
        have u309 := Stp.upM hs308 hm133 hmg
        have e311 := Stp.wr e132 hs308 hwe
        have hm312 := Up.mb u309
        refine WL.nil ?_
        refine CW.seq ?_
        refine CW.region ?_
        refine WL.move rfl ?_
        refine WL.move rfl ?_
        refine WL.nilCheck rfl ?_
        refine WL.fieldAddr fo122_0 rfl ?_
        refine WL.load sc61 rfl ((Bk.at_ (M := fun _ => False) hb307 (fun h => h)).cell 0 _ rfl) ?_
        refine WL.move rfl ?_
        have hun : unitOf x = -1 := by unfold unitOf; simp only [hsc135, hio]; rfl
        have mem314 : Ms S1 M := (EncR.ms hD)
        have h315 := EncR.step hD he3 (fun _ _ h => h) u4 mem314
        have h316 := EncR.step h315 he130 (fun _ _ h => h) u131 mem314
        have h317 := EncR.step h316 hs308 hd1 u309 mem314
        have hF313 := encPutO (u := -1) h317 hm312 indR_good (n := 0) hoe (by simp only [I64]; omega)
        refine WL.call Try.func31 rfl rfl (.cons rfl (.cons rfl (.nil))) (hF313) (fun _ w318 hr319 => ?_)
        obtain ⟨M320, S321, hP322, hM323⟩ := hr319
        have hP326 : PutR w306 M S1 w318 M320 S321 _ ((encPut indR s.e (-1)).1) := hP322
        obtain ⟨A324, c325, rfl⟩ := Own.form hP326.own
        have hM327 : EncO ge indR w318 M320 S321 (encPut indR s.e (-1)).2 := hM323
        have e328 := Stp.wr e311 (PutR.stp hP326) hwm
        have hm329 := Up.mb (PutR.up hP326)
        have hs0330 : Ms M M320 := fun k h => (PutR.ms hP326) k (hs00 k h)
        have dj331 := Dj.grow hd1 (PutR.wr hP326) hmg hm312
        have wr332 := Wr.grow hwm (PutR.wr hP326) (Stp.size e311)
        have dj333 := Dj.fresh (T := (vb g)) (PutR.new hP326) hmg hm312
        have fr334 := Ge.le (PutR.new hP326) (Stp.size e311)
        have hpl := (encOk.put (u := (-1)) indR_good hoe).2
        refine WL.appendR Try.underlying55 ti58 rfl (by decide) rfl rfl (Own.nil (R := TokR) (sz := 4) (e := 58) (w := w318) (M := M320) (B := 0)) (Own.atl (PutR.own hP326)) hm329 (by decide) (by first | omega | (simp only [List.length_append, List.length_cons, List.length_nil]; omega)) (fun A335 c336 w337 M338 hO339 hs340 u341 hsub342 hnew343 => ?_)
        have hO346 : Own TokR 4 58 w337 M338 0 (.slice A335 ((encPut indR s.e (-1)).1).length c336) ((encPut indR s.e (-1)).1) := hO339
        have he344 : Ext w318 w337 := Stp.to hs340 (fun k h => by have h : (none : Option Nat) = some k := h; cases h)
        have ge345 : ∀ q_, (ob (.slice A335 ((encPut indR s.e (-1)).1).length c336)) q_ → w318.heap.size ≤ q_ := fun q_ hq_ => (hnew343 q_ hq_).elim (fun h => by have h : (none : Option Nat) = some q_ := h; cases h) id
        have e347 := Stp.ext e328 he344
        have hm348 := Up.mb u341
        have hs0349 : Ms M M338 := fun k h => hsub342 k (hs0330 k h)
        have mem351 : Ms (vb g) M320 := (fun k h => (PutR.ms hP326) k (hmg k h))
        have dj350 := Dj.fresh (T := (vb g)) ge345 mem351 hm329
        have dj352 := Dj.fresh (T := S321) ge345 (EncR.ms hM327) hm329
        have dj353 := Dj.fresh (T := (ob (.slice A324 ((encPut indR s.e (-1)).1).length c325))) ge345 (Own.ms (PutR.own hP326)) hm329
        have fr354 := Ge.le ge345 (Stp.size e328)
        refine WL.assign rfl ?_
        refine WL.nil ?_
        refine CW.ret ?_
        refine Ret.one rfl rfl ?_
        have h355 := Bk.stp hb307 (PutR.stp hP326) ((Dj.symm hd1) _ rfl)
        have h356 := Bk.ext h355 he344
        have mem357 : Ms S321 M338 := (fun k h => hsub342 k ((EncR.ms hM327) k h))
        have h358 := EncR.step hM327 he344 (fun _ _ h => h) u341 mem357
        have mem359 : Ms (vb g) M338 := (fun k h => hsub342 k (mem351 k h))
        have hfin : iencPut s x = ienPlain s (unitOf x) := by unfold iencPut; rw [hio, Bool.true_and]; exact if_neg (by simp; omega)
        rw [hfin]
        unfold ienPlain
        rw [hun]
        exact ⟨_, _, ⟨hO346, fr354, Dj.or dj350 dj352, (Up.trans u4 (Up.trans u131 (Up.trans u309 (Up.trans (PutR.up hP326) u341)))), hs0349, e347, Wr.or hwe wr332⟩, ge, _, _, Ms.or mem359 mem357, h356, .inl rfl, h358, fun _ h => .inr h, dj331⟩
    · have hsc360 : scalarB x = true := by simpa using hc134
      have hxr := scalar_range hsc360
      refine CW.seq ?_
      refine CW.region ?_
      refine WL.move rfl ?_
      refine WL.not_ rfl ?_
      refine WL.assign rfl ?_
      refine WL.nil ?_
      refine CW.condF rfl ?_
      refine CW.skip ?_
      refine CW.seq ?_
      refine CW.region ?_
      refine WL.assign rfl ?_
      refine WL.nil ?_
      refine CW.seq ?_
      refine CW.seq ?_
      refine CW.region ?_
      refine WL.move rfl ?_
      refine WL.move rfl ?_
      refine WL.gtake rfl rfl rfl ?_
      refine WL.move rfl ?_
      refine WL.gtake rfl rfl rfl ?_
      refine WL.move rfl ?_
      refine WL.gtake rfl rfl rfl ?_
      refine WL.nilCheck rfl ?_
      refine WL.gtake rfl rfl rfl ?_
      refine WL.fieldAddr fo122_1 rfl ?_
      refine WL.gtake rfl rfl rfl ?_
      have h361 := Bk.ext hb he3
      have h362 := Bk.ext h361 he130
      refine WL.load sc79 rfl ((Bk.at_ (M := fun _ => False) h362 (fun h => h)).cell 1 _ rfl) ?_
      refine WL.gtake rfl rfl rfl ?_
      refine WL.neq rfl rfl ?_
      refine WL.pickT rfl rfl ?_
      refine WL.nil ?_
      refine CW.condP rfl (fun hc363 => ?_) (fun hc363 => ?_)
      · refine CW.seq ?_
        refine CW.region ?_
        refine WL.move rfl ?_
        refine WL.nilCheck rfl ?_
        refine WL.fieldAddr fo122_0 rfl ?_
        refine WL.load sc61 rfl ((Bk.at_ (M := fun _ => False) h362 (fun h => h)).cell 0 _ rfl) ?_
        have mem365 : Ms S1 M := (EncR.ms hD)
        have h366 := EncR.step hD he3 (fun _ _ h => h) u4 mem365
        have h367 := EncR.step h366 he130 (fun _ _ h => h) u131 mem365
        have hF364 := encEndO h367 hm133 indR_good hoe
        refine WL.call Try.func79 rfl rfl (.cons rfl (.nil)) (hF364) (fun _ w368 hr369 => ?_)
        obtain ⟨M370, S371, hP372, hM373⟩ := hr369
        have hP376 : PutR w128 M S1 w368 M370 S371 _ ((encFin indR s.e).1) := hP372
        obtain ⟨A374, c375, rfl⟩ := Own.form hP376.own
        have hM377 : EncO ge indR w368 M370 S371 (encFin indR s.e).2 := hM373
        have e378 := Stp.wr e132 (PutR.stp hP376) hwm
        have hm379 := Up.mb (PutR.up hP376)
        have hs0380 : Ms M M370 := fun k h => (PutR.ms hP376) k (hs00 k h)
        have dj381 := Dj.grow hd1 (PutR.wr hP376) hmg hm133
        have wr382 := Wr.grow hwm (PutR.wr hP376) (Stp.size e132)
        have dj383 := Dj.fresh (T := (vb g)) (PutR.new hP376) hmg hm133
        have fr384 := Ge.le (PutR.new hP376) (Stp.size e132)
        refine WL.assign rfl ?_
        refine WL.nil ?_
        refine CW.seq ?_
        refine CW.region ?_
        refine WL.move rfl ?_
        refine WL.call Try.func80 rfl rfl (.cons rfl (.nil)) (code_spec _ _ hm379 (s_ := indScript x) (by omega) (by omega)) (fun _ w385 hr386 => ?_)
        obtain ⟨rfl, he387⟩ := hr386
        have u388 := Ext.up he387 hm379
        have e389 := Stp.ext e378 he387
        have hm390 := Up.mb u388
        have hcr := codes_rangeI (indScript x) (by omega) (by omega)
        refine WL.move rfl ?_
        refine WL.extract rfl rfl ?_
        refine WL.extract rfl rfl ?_
        refine WL.assign rfl ?_
        refine WL.assign rfl ?_
        refine WL.nil ?_
        refine CW.seq ?_
        refine CW.region ?_
        refine WL.move rfl ?_
        refine WL.move rfl ?_
        refine WL.nilCheck rfl ?_
        refine WL.fieldAddr fo122_1 rfl ?_
        have h395 := Bk.stp h362 (PutR.stp hP376) ((Dj.symm hd1) _ rfl)
        have h396 := Bk.ext h395 he387
        have mem397 : Ms (vb g) M370 := (fun k h => (PutR.ms hP376) k (hmg k h))
        refine WL.store (o := 1) (by rw [ti79]; rfl) rfl rfl rfl h396 (Nat.le_of_ble_eq_true rfl) (fun w391 hb398 hs393 => ?_)
        have hb392 : Bk w391 g 122 [.pointer (some ⟨ge, 0, none⟩), .int .i64 (indScript x), .int .i64 s.n, .int .i64 b_] := hb398
        have u394 := Stp.upM hs393 hm390 mem397
        have e399 := Stp.wr e389 hs393 hwe
        have hm400 := Up.mb u394
        refine WL.nil ?_
        refine CW.seq ?_
        refine CW.region ?_
        refine WL.move rfl ?_
        refine WL.nilCheck rfl ?_
        refine WL.fieldAddr fo122_0 rfl ?_
        refine WL.load sc61 rfl ((Bk.at_ (M := fun _ => False) hb392 (fun h => h)).cell 0 _ rfl) ?_
        have mem401 : Ms S371 M370 := (EncR.ms hM377)
        have h402 := EncR.step hM377 he387 (fun _ _ h => h) u388 mem401
        have h403 := EncR.step h402 hs393 dj381 u394 mem401
        refine WL.call Try.func37 rfl rfl (.cons rfl (.nil)) (encApart_spec _ _ hm400 h403) (fun _ w404 hr405 => ?_)
        obtain ⟨M406, S407, hE408, hu409, hms410, hst411, hwr412⟩ := hr405
        have e413 := Stp.wr e399 hst411 wr382
        have hm414 := Up.mb hu409
        have hs0415 : Ms M M406 := fun k h => hms410 k (hs0380 k h)
        have hE416 : EncO ge indR w404 M406 S407 (apartS (encFin indR s.e).2) := hE408
        have dj417 := Dj.grow dj381 hwr412 mem397 hm400
        have mem419 : Ms (ob (.slice A374 ((encFin indR s.e).1).length c375)) M370 := (Own.ms (PutR.own hP376))
        have dj418 := Dj.grow (Dj.symm (PutR.dj hP376)) hwr412 mem419 hm400
        have wr420 := Wr.grow wr382 hwr412 (Stp.size e399)
        refine WL.nil ?_
        refine CW.region ?_
        refine WL.move rfl ?_
        refine WL.move rfl ?_
        refine WL.nilCheck rfl ?_
        refine WL.fieldAddr fo122_2 rfl ?_
        have h421 := Bk.stp hb392 hst411 ((Dj.symm dj381) _ rfl)
        refine WL.load sc3 rfl ((Bk.at_ (M := fun _ => False) h421 (fun h => h)).cell 2 _ rfl) ?_
        refine WL.move rfl ?_
        refine WL.bslice Try.underlying29 ti3 rfl (by decide) (by decide) (.cons rfl (.cons rfl (.nil))) rfl (by simp [Value.cells]) (fun g422 w423 hg424 hb425 he426 => ?_)
        have hD427 : SlD IntR 1 w423 M406 (some ⟨g422, 0, none⟩) 2 ([239, codesL.getD (indScript x).toNat 0] : List Int) := Bk.ints (xs := [239, codesL.getD (indScript x).toNat 0]) hb425 (by intro x_ hx_; simp only [List.mem_cons, List.not_mem_nil, or_false] at hx_; rcases hx_ with rfl | rfl <;> (simp only [I64]; omega)) (MB.fresh hm414 hg424) (Nat.le_of_ble_eq_true rfl)
        have u428 := Ext.up he426 hm414
        have e429 := Stp.ext e413 he426
        have hm430 := Up.mb u428
        refine WL.buildP (cs := #[.int .i64 s.n, .int .i64 0, .slice (some ⟨g422, 0, none⟩) 2 2, .int .i64 0]) (.cons rfl (.cons rfl (.nil))) (by kernel_rfl) ?_
        refine WL.bslice1 (R := TokR) (y' := (⟨s.n, 0, ([239, codesL.getD (indScript x).toNat 0] : List Int), 0⟩ : PTok)) Try.underlying55 ti58 rfl (by decide) (by decide) rfl ⟨_, rfl, (SlD.sl hD427), by simp only [I64]; omega, by simp only [I64]; omega, by simp only [I64]; omega⟩ rfl hm430 (fun v431 w432 hS433 he434 => ?_)
        obtain ⟨A435, c436, rfl, hD437⟩ := hS433
        have u438 := Ext.up he434 hm430
        have e439 := Stp.ext e429 he434
        have hm440 := Up.mb u438
        have h450 := Own.ext (PutR.own hP376) he387 u388 (fun _ h => h)
        have h451 := Own.step h450 hs393 dj383 u394 mem419
        have mem452 : Ms (ob (.slice A374 ((encFin indR s.e).1).length c375)) M406 := (fun k h => hms410 k (mem419 k h))
        have h453 := Own.step h451 hst411 (PutR.dj hP376) hu409 mem452
        have h454 := Own.ext h453 he426 u428 (fun _ h => h)
        have h455 := Own.ext h454 he434 u438 (fun _ h => h)
        refine WL.appendR Try.underlying55 ti58 rfl (by decide) rfl rfl h455 (Sl.atl (SlD.sl hD437)) hm440 (by decide) (by first | omega | (simp only [List.length_append, List.length_cons, List.length_nil]; omega)) (fun A441 c442 w443 M444 hO445 hs446 u447 hsub448 hnew449 => ?_)
        have e456 := Stp.wr e439 hs446 (Wr.ofFr S fr384)
        have hm457 := Up.mb u447
        have hs0458 : Ms M M444 := fun k h => hsub448 k (hs0415 k h)
        have mem460 : Ms (vb g) M406 := (fun k h => hms410 k (mem397 k h))
        have dj459 := Dj.grow dj383 hnew449 mem460 hm440
        have mem462 : Ms S407 M406 := (EncR.ms hE416)
        have dj461 := Dj.grow (Dj.symm dj418) hnew449 mem462 hm440
        have fr464 := Ge.grow fr384 hnew449 (Stp.size e439)
        have ge465 := Ge.grow (PutR.new hP376) hnew449 (Stp.size (Up.stp (Up.trans (PutR.up hP376) (Up.trans u388 (Up.trans u394 (Up.trans hu409 (Up.trans u428 u438)))))))
        refine WL.assign rfl ?_
        refine WL.nil ?_
        refine CW.seq ?_
        refine CW.region ?_
        refine WL.move rfl ?_
        refine WL.nilCheck rfl ?_
        refine WL.fieldAddr fo122_2 rfl ?_
        have h466 := Bk.ext h421 he426
        have h467 := Bk.ext h466 he434
        have h468 := Bk.stp h467 hs446 ((Dj.symm dj383) _ rfl)
        refine WL.load sc3 rfl ((Bk.at_ (M := fun _ => False) h468 (fun h => h)).cell 2 _ rfl) ?_
        refine WL.add rfl rfl (by omega) ?_
        refine WL.nilCheck rfl ?_
        refine WL.fieldAddr fo122_2 rfl ?_
        have mem473 : Ms (vb g) M444 := (fun k h => hsub448 k (mem460 k h))
        refine WL.store (o := 2) (by rw [ti3]; rfl) rfl rfl rfl h468 (Nat.le_of_ble_eq_true rfl) (fun w469 hb474 hs471 => ?_)
        have hb470 : Bk w469 g 122 [.pointer (some ⟨ge, 0, none⟩), .int .i64 (indScript x), .int .i64 (s.n + 1), .int .i64 b_] := hb474
        have u472 := Stp.upM hs471 hm457 mem473
        have e475 := Stp.wr e456 hs471 hwe
        have hm476 := Up.mb u472
        refine WL.nil ?_
        refine CW.seq ?_
        refine CW.region ?_
        refine WL.move rfl ?_
        refine WL.move rfl ?_
        refine WL.nilCheck rfl ?_
        refine WL.fieldAddr fo122_0 rfl ?_
        refine WL.load sc61 rfl ((Bk.at_ (M := fun _ => False) hb470 (fun h => h)).cell 0 _ rfl) ?_
        refine WL.move rfl ?_
        have hun : unitOf x = indPlace x := by unfold unitOf; simp only [hsc360, hio]; rfl
        have mem478 : Ms S407 M406 := (EncR.ms hE416)
        have h479 := EncR.step hE416 he426 (fun _ _ h => h) u428 mem478
        have h480 := EncR.step h479 he434 (fun _ _ h => h) u438 mem462
        have mem481 : Ms S407 M444 := (fun k h => hsub448 k (mem462 k h))
        have h482 := EncR.step h480 hs446 dj418 u447 mem481
        have h483 := EncR.step h482 hs471 dj417 u472 mem481
        have hF477 := encPutO (u := indPlace x) h483 hm476 indR_good (n := 0) hof (by simp only [I64]; omega)
        refine WL.call Try.func31 rfl rfl (.cons rfl (.cons rfl (.nil))) (hF477) (fun _ w484 hr485 => ?_)
        obtain ⟨M486, S487, hP488, hM489⟩ := hr485
        have hP492 : PutR w469 M444 S407 w484 M486 S487 _ ((encPut indR (apartS (encFin indR s.e).2) (indPlace x)).1) := hP488
        obtain ⟨A490, c491, rfl⟩ := Own.form hP492.own
        have hM493 : EncO ge indR w484 M486 S487 (encPut indR (apartS (encFin indR s.e).2) (indPlace x)).2 := hM489
        have e494 := Stp.wr e475 (PutR.stp hP492) wr420
        have hm495 := Up.mb (PutR.up hP492)
        have hs0496 : Ms M M486 := fun k h => (PutR.ms hP492) k (hs0458 k h)
        have dj497 := Dj.grow dj417 (PutR.wr hP492) mem473 hm476
        have mem499 : Ms (ob (.slice A441 (((encFin indR s.e).1) ++ [(⟨s.n, 0, ([239, codesL.getD (indScript x).toNat 0] : List Int), 0⟩ : PTok)]).length c442)) M444 := (Own.ms hO445)
        have dj498 := Dj.grow (Dj.symm dj461) (PutR.wr hP492) mem499 hm476
        have wr500 := Wr.grow wr420 (PutR.wr hP492) (Stp.size e475)
        have dj501 := Dj.fresh (T := (vb g)) (PutR.new hP492) mem473 hm476
        have dj502 := Dj.fresh (T := (ob (.slice A441 (((encFin indR s.e).1) ++ [(⟨s.n, 0, ([239, codesL.getD (indScript x).toNat 0] : List Int), 0⟩ : PTok)]).length c442))) (PutR.new hP492) mem499 hm476
        have fr503 := Ge.le (PutR.new hP492) (Stp.size e475)
        have hpl := (encOk.put (u := (indPlace x)) indR_good hof).2
        have h513 := Own.step hO445 hs471 dj459 u472 mem499
        have mem514 : Ms (ob (.slice A441 (((encFin indR s.e).1) ++ [(⟨s.n, 0, ([239, codesL.getD (indScript x).toNat 0] : List Int), 0⟩ : PTok)]).length c442)) M486 := (fun k h => (PutR.ms hP492) k (mem499 k h))
        have h515 := Own.step h513 (PutR.stp hP492) dj461 (PutR.up hP492) mem514
        refine WL.appendR Try.underlying55 ti58 rfl (by decide) rfl rfl h515 (Own.atl (PutR.own hP492)) hm495 (by decide) (by first | omega | (simp only [List.length_append, List.length_cons, List.length_nil]; omega)) (fun A504 c505 w506 M507 hO508 hs509 u510 hsub511 hnew512 => ?_)
        have e516 := Stp.wr e494 hs509 (Wr.ofFr S fr464)
        have hm517 := Up.mb u510
        have hs0518 : Ms M M507 := fun k h => hsub511 k (hs0496 k h)
        have mem520 : Ms (vb g) M486 := (fun k h => (PutR.ms hP492) k (mem473 k h))
        have dj519 := Dj.grow dj459 hnew512 mem520 hm495
        have dj521 := Dj.grow (Dj.symm dj498) hnew512 (EncR.ms hM493) hm495
        have dj522 := Dj.grow (Dj.symm dj502) hnew512 (Own.ms (PutR.own hP492)) hm495
        have fr524 := Ge.grow fr464 hnew512 (Stp.size e494)
        have ge525 := Ge.grow ge465 hnew512 (Stp.size (Up.stp (Up.trans (PutR.up hP376) (Up.trans u388 (Up.trans u394 (Up.trans hu409 (Up.trans u428 (Up.trans u438 (Up.trans u447 (Up.trans u472 (PutR.up hP492)))))))))))
        refine WL.assign rfl ?_
        refine WL.nil ?_
        refine CW.ret ?_
        refine Ret.one rfl rfl ?_
        have h526 := Bk.stp hb470 (PutR.stp hP492) ((Dj.symm dj417) _ rfl)
        have h527 := Bk.stp h526 hs509 ((Dj.symm dj459) _ rfl)
        have mem528 : Ms S487 M507 := (fun k h => hsub511 k ((EncR.ms hM493) k h))
        have h529 := EncR.step hM493 hs509 dj498 u510 mem528
        have mem530 : Ms (vb g) M507 := (fun k h => hsub511 k (mem520 k h))
        have hfin : iencPut s x = ienSwitch s x := by unfold iencPut; rw [hio, Bool.true_and]; exact if_pos (decide_eq_true (by assumption))
        rw [hfin]
        unfold ienSwitch switchTok
        rw [hun]
        exact ⟨_, _, ⟨hO508, fr524, Dj.or dj519 dj521, (Up.trans u4 (Up.trans u131 (Up.trans (PutR.up hP376) (Up.trans u388 (Up.trans u394 (Up.trans hu409 (Up.trans u428 (Up.trans u438 (Up.trans u447 (Up.trans u472 (Up.trans (PutR.up hP492) u510))))))))))), hs0518, e516, Wr.or hwe wr500⟩, ge, _, _, Ms.or mem530 mem528, h527, .inl rfl, h529, fun _ h => .inr h, dj497⟩
      · refine CW.skip ?_
        refine CW.seq ?_
        refine CW.region ?_
        refine WL.move rfl ?_
        refine WL.nilCheck rfl ?_
        refine WL.fieldAddr fo122_2 rfl ?_
        refine WL.load sc3 rfl ((Bk.at_ (M := fun _ => False) h362 (fun h => h)).cell 2 _ rfl) ?_
        refine WL.add rfl rfl (by omega) ?_
        refine WL.nilCheck rfl ?_
        refine WL.fieldAddr fo122_2 rfl ?_
        refine WL.store (o := 2) (by rw [ti3]; rfl) rfl rfl rfl h362 (Nat.le_of_ble_eq_true rfl) (fun w531 hb535 hs533 => ?_)
        have hb532 : Bk w531 g 122 [.pointer (some ⟨ge, 0, none⟩), .int .i64 s.sc, .int .i64 (s.n + 1), .int .i64 b_] := hb535
        have u534 := Stp.upM hs533 hm133 hmg
        have e536 := Stp.wr e132 hs533 hwe
        have hm537 := Up.mb u534
        refine WL.nil ?_
        refine CW.seq ?_
        refine CW.region ?_
        refine WL.move rfl ?_
        refine WL.move rfl ?_
        refine WL.nilCheck rfl ?_
        refine WL.fieldAddr fo122_0 rfl ?_
        refine WL.load sc61 rfl ((Bk.at_ (M := fun _ => False) hb532 (fun h => h)).cell 0 _ rfl) ?_
        refine WL.move rfl ?_
        have hun : unitOf x = indPlace x := by unfold unitOf; simp only [hsc360, hio]; rfl
        have mem539 : Ms S1 M := (EncR.ms hD)
        have h540 := EncR.step hD he3 (fun _ _ h => h) u4 mem539
        have h541 := EncR.step h540 he130 (fun _ _ h => h) u131 mem539
        have h542 := EncR.step h541 hs533 hd1 u534 mem539
        have hF538 := encPutO (u := indPlace x) h542 hm537 indR_good (n := 0) hoe (by simp only [I64]; omega)
        refine WL.call Try.func31 rfl rfl (.cons rfl (.cons rfl (.nil))) (hF538) (fun _ w543 hr544 => ?_)
        obtain ⟨M545, S546, hP547, hM548⟩ := hr544
        have hP551 : PutR w531 M S1 w543 M545 S546 _ ((encPut indR s.e (indPlace x)).1) := hP547
        obtain ⟨A549, c550, rfl⟩ := Own.form hP551.own
        have hM552 : EncO ge indR w543 M545 S546 (encPut indR s.e (indPlace x)).2 := hM548
        have e553 := Stp.wr e536 (PutR.stp hP551) hwm
        have hm554 := Up.mb (PutR.up hP551)
        have hs0555 : Ms M M545 := fun k h => (PutR.ms hP551) k (hs00 k h)
        have dj556 := Dj.grow hd1 (PutR.wr hP551) hmg hm537
        have wr557 := Wr.grow hwm (PutR.wr hP551) (Stp.size e536)
        have dj558 := Dj.fresh (T := (vb g)) (PutR.new hP551) hmg hm537
        have fr559 := Ge.le (PutR.new hP551) (Stp.size e536)
        have hpl := (encOk.put (u := (indPlace x)) indR_good hoe).2
        refine WL.appendR Try.underlying55 ti58 rfl (by decide) rfl rfl (Own.nil (R := TokR) (sz := 4) (e := 58) (w := w543) (M := M545) (B := 0)) (Own.atl (PutR.own hP551)) hm554 (by decide) (by first | omega | (simp only [List.length_append, List.length_cons, List.length_nil]; omega)) (fun A560 c561 w562 M563 hO564 hs565 u566 hsub567 hnew568 => ?_)
        have hO571 : Own TokR 4 58 w562 M563 0 (.slice A560 ((encPut indR s.e (indPlace x)).1).length c561) ((encPut indR s.e (indPlace x)).1) := hO564
        have he569 : Ext w543 w562 := Stp.to hs565 (fun k h => by have h : (none : Option Nat) = some k := h; cases h)
        have ge570 : ∀ q_, (ob (.slice A560 ((encPut indR s.e (indPlace x)).1).length c561)) q_ → w543.heap.size ≤ q_ := fun q_ hq_ => (hnew568 q_ hq_).elim (fun h => by have h : (none : Option Nat) = some q_ := h; cases h) id
        have e572 := Stp.ext e553 he569
        have hm573 := Up.mb u566
        have hs0574 : Ms M M563 := fun k h => hsub567 k (hs0555 k h)
        have mem576 : Ms (vb g) M545 := (fun k h => (PutR.ms hP551) k (hmg k h))
        have dj575 := Dj.fresh (T := (vb g)) ge570 mem576 hm554
        have dj577 := Dj.fresh (T := S546) ge570 (EncR.ms hM552) hm554
        have dj578 := Dj.fresh (T := (ob (.slice A549 ((encPut indR s.e (indPlace x)).1).length c550))) ge570 (Own.ms (PutR.own hP551)) hm554
        have fr579 := Ge.le ge570 (Stp.size e553)
        refine WL.assign rfl ?_
        refine WL.nil ?_
        refine CW.ret ?_
        refine Ret.one rfl rfl ?_
        have h580 := Bk.stp hb532 (PutR.stp hP551) ((Dj.symm hd1) _ rfl)
        have h581 := Bk.ext h580 he569
        have mem582 : Ms S546 M563 := (fun k h => hsub567 k ((EncR.ms hM552) k h))
        have h583 := EncR.step hM552 he569 (fun _ _ h => h) u566 mem582
        have mem584 : Ms (vb g) M563 := (fun k h => hsub567 k (mem576 k h))
        have hfin : iencPut s x = ienPlain s (unitOf x) := by unfold iencPut; rw [hio, Bool.true_and]; exact if_neg (by simp; omega)
        rw [hfin]
        unfold ienPlain
        rw [hun]
        exact ⟨_, _, ⟨hO571, fr579, Dj.or dj575 dj577, (Up.trans u4 (Up.trans u131 (Up.trans u534 (Up.trans (PutR.up hP551) u566)))), hs0574, e572, Wr.or hwe wr557⟩, ge, _, _, Ms.or mem584 mem582, h581, .inl rfl, h583, fun _ h => .inr h, dj556⟩

theorem iencEnd_spec (w : World) (M : MS) (hm : MB w M) {S : MS} {g : Nat} {s : IEnc} (hR : IEncR g w M S s) {n : Nat} (hok : encOk s.e n) :
    Fc Try.prog 44 #[.pointer (some ⟨g, 0, none⟩)] w fun v w' => ∃ M' S', PutR w M S w' M' S' v (iencFin s).1 ∧ IEncR g w' M' S' (iencFin s).2 := by
  have e0 := Stp.refl w (S : MS)
  have hs00 : Ms M M := fun _ h => h
  obtain ⟨ge, b_, S1, hS, hb, hSg, hD, hS1, hd1⟩ := hR
  have hmg : Ms (vb g) M := Ms.one (hS _ hSg)
  have hwe : Wr w.heap.size S (vb g) := fun q_ hq_ => .inl (by rw [hq_]; exact hSg)
  have hwm : Wr w.heap.size S S1 := fun q_ hq_ => .inl (hS1 q_ hq_)
  refine Fc.enter (n := 8) [(0, .pointer (some ⟨g, 0, none⟩))] Try.func44 rfl rfl (Nat.le_of_ble_eq_true rfl) (.cons rfl (.nil _)) ?_
  refine CW.seq ?_
  refine CW.region ?_
  refine WL.assign rfl ?_
  refine WL.nil ?_
  refine CW.seq ?_
  refine CW.region ?_
  refine WL.move rfl ?_
  refine WL.nilCheck rfl ?_
  refine WL.fieldAddr fo122_0 rfl ?_
  refine WL.load sc61 rfl ((Bk.at_ (M := fun _ => False) hb (fun h => h)).cell 0 _ rfl) ?_
  have hF1 := encEndO hD hm indR_good hok
  refine WL.call Try.func79 rfl rfl (.cons rfl (.nil)) (hF1) (fun _ w2 hr3 => ?_)
  obtain ⟨M4, S5, hP6, hM7⟩ := hr3
  have hP10 : PutR w M S1 w2 M4 S5 _ ((encFin indR s.e).1) := hP6
  obtain ⟨A8, c9, rfl⟩ := Own.form hP10.own
  have hM11 : EncO ge indR w2 M4 S5 (encFin indR s.e).2 := hM7
  have e12 := Stp.wr e0 (PutR.stp hP10) hwm
  have hm13 := Up.mb (PutR.up hP10)
  have hs014 : Ms M M4 := fun k h => (PutR.ms hP10) k (hs00 k h)
  have dj15 := Dj.grow hd1 (PutR.wr hP10) hmg hm
  have wr16 := Wr.grow hwm (PutR.wr hP10) (Stp.size e0)
  have dj17 := Dj.fresh (T := (vb g)) (PutR.new hP10) hmg hm
  have fr18 := Ge.le (PutR.new hP10) (Stp.size e0)
  refine WL.assign rfl ?_
  refine WL.nil ?_
  refine CW.ret ?_
  refine Ret.one rfl rfl ?_
  have h19 := Bk.stp hb (PutR.stp hP10) ((Dj.symm hd1) _ rfl)
  have mem20 : Ms (vb g) M4 := (fun k h => (PutR.ms hP10) k (hmg k h))
  exact ⟨_, _, ⟨(PutR.own hP10), fr18, Dj.or dj17 (PutR.dj hP10), (PutR.up hP10), hs014, e12, Wr.or hwe wr16⟩, ge, _, _, Ms.or mem20 (EncR.ms hM11), h19, .inl rfl, hM11, fun _ h => .inr h, dj15⟩

theorem iencHeld_spec (w : World) (M : MS) (hm : MB w M) {S : MS} {g : Nat} {s : IEnc} (hR : IEncR g w M S s) :
    Fc Try.prog 53 #[.pointer (some ⟨g, 0, none⟩)] w fun v w' => v = .int .i64 (s.e.wait.length : Int) ∧ Ext w w' := by
  have e0 := Stp.refl w (NoM : MS)
  have hs00 : Ms M M := fun _ h => h
  obtain ⟨ge, b_, S1, hS, hb, hSg, hD, hS1, hd1⟩ := hR
  have hmg : Ms (vb g) M := Ms.one (hS _ hSg)
  have hwe : Wr w.heap.size S (vb g) := fun q_ hq_ => .inl (by rw [hq_]; exact hSg)
  have hwm : Wr w.heap.size S S1 := fun q_ hq_ => .inl (hS1 q_ hq_)
  refine Fc.enter (n := 8) [(0, .pointer (some ⟨g, 0, none⟩))] Try.func53 rfl rfl (Nat.le_of_ble_eq_true rfl) (.cons rfl (.nil _)) ?_
  refine CW.seq ?_
  refine CW.region ?_
  refine WL.assign rfl ?_
  refine WL.nil ?_
  refine CW.seq ?_
  refine CW.region ?_
  refine WL.move rfl ?_
  refine WL.nilCheck rfl ?_
  refine WL.fieldAddr fo122_0 rfl ?_
  refine WL.load sc61 rfl ((Bk.at_ (M := fun _ => False) hb (fun h => h)).cell 0 _ rfl) ?_
  refine WL.call Try.func32 rfl rfl (.cons rfl (.nil)) (encHeld_spec _ _ hm hD) (fun _ w1 hr2 => ?_)
  obtain ⟨rfl, he3⟩ := hr2
  have u4 := Ext.up he3 hm
  have e5 := Stp.ext e0 he3
  have hm6 := Up.mb u4
  refine WL.assign rfl ?_
  refine WL.nil ?_
  refine CW.ret ?_
  refine Ret.one rfl rfl ?_
  exact ⟨rfl, e5⟩

theorem iencScript_spec (w : World) (M : MS) (hm : MB w M) {S : MS} {g : Nat} {s : IEnc} (hR : IEncR g w M S s) :
    Fc Try.prog 51 #[.pointer (some ⟨g, 0, none⟩)] w fun v w' => v = .int .i64 s.sc ∧ Ext w w' := by
  have e0 := Stp.refl w (NoM : MS)
  have hs00 : Ms M M := fun _ h => h
  obtain ⟨ge, b_, S1, hS, hb, hSg, hD, hS1, hd1⟩ := hR
  have hmg : Ms (vb g) M := Ms.one (hS _ hSg)
  have hwe : Wr w.heap.size S (vb g) := fun q_ hq_ => .inl (by rw [hq_]; exact hSg)
  have hwm : Wr w.heap.size S S1 := fun q_ hq_ => .inl (hS1 q_ hq_)
  refine Fc.enter (n := 7) [(0, .pointer (some ⟨g, 0, none⟩))] Try.func51 rfl rfl (Nat.le_of_ble_eq_true rfl) (.cons rfl (.nil _)) ?_
  refine CW.seq ?_
  refine CW.region ?_
  refine WL.assign rfl ?_
  refine WL.nil ?_
  refine CW.seq ?_
  refine CW.region ?_
  refine WL.move rfl ?_
  refine WL.nilCheck rfl ?_
  refine WL.fieldAddr fo122_1 rfl ?_
  refine WL.load sc79 rfl ((Bk.at_ (M := fun _ => False) hb (fun h => h)).cell 1 _ rfl) ?_
  refine WL.assign rfl ?_
  refine WL.nil ?_
  refine CW.ret ?_
  refine Ret.one rfl rfl ?_
  exact ⟨rfl, e0⟩

theorem indAll_spec (w : World) (M : MS) (hm : MB w M) :
    Fc Try.prog 76 #[] w fun v w' => (∃ g, v = .pointer (some ⟨g, 0, none⟩) ∧ TableR w' M g indR) ∧ Ext w w' := by
  have e0 := Stp.refl w (NoM : MS)
  have hs00 : Ms M M := fun _ h => h
  refine Fc.enter (n := 9) [] Try.func76 rfl rfl (Nat.le_of_ble_eq_true rfl) (.nil _) ?_
  refine CW.seq ?_
  refine CW.region ?_
  refine WL.assign rfl ?_
  refine WL.nil ?_
  refine CW.seq ?_
  refine CW.region ?_
  refine WL.call Try.func94 rfl rfl (.nil) (indRules_spec _ _ hm) (fun _ w1 hr2 => ?_)
  obtain ⟨M3, hP4⟩ := hr2
  obtain ⟨A5, c6, rfl⟩ := Own.form hP4.own
  have e7 := Stp.ext e0 (NewR.ext hP4)
  have hm8 := Up.mb (NewR.up hP4)
  have hs09 : Ms M M3 := fun k h => (NewR.ms hP4) k (hs00 k h)
  have fr10 := Ge.le (NewR.new hP4) (Stp.size e0)
  have hD11 := Own.freeze (NewR.own hP4) hm8
  have u12 := Up.freeze hm8 (ob (.slice A5 indR.length c6))
  have hs013 : Ms M (less M3 (ob (.slice A5 indR.length c6))) := Ms.less hs09 (Dj.symm (Dj.fresh (NewR.new hP4) (fun _ h => h) hm))
  have hm14 := Up.mb u12
  refine WL.call Try.func25 rfl rfl (.cons rfl (.nil)) (tableOf_spec _ _ hm14 hD11 indR_good indR_closed) (fun _ w15 hr16 => ?_)
  obtain ⟨⟨gt, rfl, hT⟩, he17⟩ := hr16
  have u18 := Ext.up he17 hm14
  have e19 := Stp.ext e7 he17
  have hm20 := Up.mb u18
  refine WL.move rfl ?_
  refine WL.extract rfl rfl ?_
  refine WL.extract rfl rfl ?_
  refine WL.assign rfl ?_
  refine WL.assign rfl ?_
  refine WL.nil ?_
  refine CW.seq ?_
  refine CW.region ?_
  refine WL.move rfl ?_
  refine WL.assign rfl ?_
  refine WL.nil ?_
  refine CW.ret ?_
  refine Ret.one rfl rfl ?_
  have u21 := Up.here hm20 hs013
  exact ⟨⟨gt, rfl, hT.up u21⟩, e19⟩

theorem idecode_spec (w : World) (M : MS) (hm : MB w M) :
    Fc Try.prog 46 #[] w fun v w' => ∃ g, v = .pointer (some ⟨g, 0, none⟩) ∧ ∃ M' S', IDecR g w' M' S' ⟨([], 0), 0⟩ ∧ (∀ k, S' k → w.heap.size ≤ k) ∧ Up w M w' M' ∧ Ms M M' ∧ Ext w w' := by
  have e0 := Stp.refl w (NoM : MS)
  have hs00 : Ms M M := fun _ h => h
  refine Fc.enter (n := 5) [] Try.func46 rfl rfl (Nat.le_of_ble_eq_true rfl) (.nil _) ?_
  refine CW.seq ?_
  refine CW.region ?_
  refine WL.assign rfl ?_
  refine WL.nil ?_
  refine CW.seq ?_
  refine CW.region ?_
  refine WL.call Try.func76 rfl rfl (.nil) (indAll_spec _ _ hm) (fun _ w1 hr2 => ?_)
  obtain ⟨⟨gt, rfl, hT⟩, he3⟩ := hr2
  have u4 := Ext.up he3 hm
  have e5 := Stp.ext e0 he3
  have hm6 := Up.mb u4
  refine WL.call Try.func27 rfl rfl (.cons rfl (.nil)) (decode_spec _ _ hm6 hT) (fun _ w7 hr8 => ?_)
  obtain ⟨gd9, rfl, M10, S11, hD12, hnw13, hu14, hms15, he16⟩ := hr8
  have e17 := Stp.ext e5 he16
  have hm18 := Up.mb hu14
  have hs019 : Ms M M10 := fun k h => hms15 k (hs00 k h)
  have fr20 := Ge.le hnw13 (Stp.size e5)
  refine WL.buildP (cs := #[.iface 109 (.pointer (some ⟨gd9, 0, none⟩)), .int .i64 0]) (.cons rfl (.nil)) (by kernel_rfl) ?_
  refine WL.box (cs := [.iface 109 (.pointer (some ⟨gd9, 0, none⟩)), .int .i64 0]) rfl rfl (fun g21 w22 hg23 hb24 he25 => ?_)
  obtain ⟨M26, u27, mem28, hsub29, hinv30⟩ := Ext.addVar he25 hm18 hg23 hb24
  have ge31 : ∀ q_, vb g21 q_ → w7.heap.size ≤ q_ := fun q_ hq_ => by rw [hq_]; exact hg23
  have mem32 := Ms.one mem28
  have e33 := Stp.ext e17 he25
  have hm34 := Up.mb u27
  have hs035 : Ms M M26 := fun k h => hsub29 k (hs019 k h)
  have dj36 := Dj.fresh (T := S11) ge31 (DecO.ms hD12) hm18
  have fr37 := Ge.le ge31 (Stp.size e17)
  refine WL.assign rfl ?_
  refine WL.nil ?_
  refine CW.ret ?_
  refine Ret.one rfl rfl ?_
  have mem38 : Ms S11 M26 := (fun k h => hsub29 k ((DecO.ms hD12) k h))
  have h39 := DecO.step hD12 he25 (fun _ _ h => h) u27 mem38
  exact ⟨_, rfl, _, _, ⟨gd9, _, Ms.or mem32 mem38, hb24, .inl rfl, h39, fun _ h => .inr h, (Dj.symm dj36)⟩, Fr.or fr37 fr20, (Up.trans u4 (Up.trans hu14 u27)), hs035, e33⟩

theorem iencode_spec (w : World) (M : MS) (hm : MB w M) :
    Fc Try.prog 41 #[] w fun v w' => ∃ g, v = .pointer (some ⟨g, 0, none⟩) ∧ ∃ M' S', IEncR g w' M' S' ⟨⟨[], 0, []⟩, 0, 0⟩ ∧ (∀ k, S' k → w.heap.size ≤ k) ∧ Up w M w' M' ∧ Ms M M' ∧ Ext w w' := by
  have e0 := Stp.refl w (NoM : MS)
  have hs00 : Ms M M := fun _ h => h
  refine Fc.enter (n := 5) [] Try.func41 rfl rfl (Nat.le_of_ble_eq_true rfl) (.nil _) ?_
  refine CW.seq ?_
  refine CW.region ?_
  refine WL.assign rfl ?_
  refine WL.nil ?_
  refine CW.seq ?_
  refine CW.region ?_
  refine WL.call Try.func76 rfl rfl (.nil) (indAll_spec _ _ hm) (fun _ w1 hr2 => ?_)
  obtain ⟨⟨gt, rfl, hT⟩, he3⟩ := hr2
  have u4 := Ext.up he3 hm
  have e5 := Stp.ext e0 he3
  have hm6 := Up.mb u4
  refine WL.call Try.func29 rfl rfl (.cons rfl (.nil)) (encode_spec _ _ hm6 hT) (fun _ w7 hr8 => ?_)
  obtain ⟨ge9, rfl, M10, S11, hE12, hnw13, hu14, hms15, he16⟩ := hr8
  have e17 := Stp.ext e5 he16
  have hm18 := Up.mb hu14
  have hs019 : Ms M M10 := fun k h => hms15 k (hs00 k h)
  have fr20 := Ge.le hnw13 (Stp.size e5)
  refine WL.buildP (cs := #[.pointer (some ⟨ge9, 0, none⟩), .int .i64 0, .int .i64 0, .int .i64 0]) (.cons rfl (.nil)) (by kernel_rfl) ?_
  refine WL.box (cs := [.pointer (some ⟨ge9, 0, none⟩), .int .i64 0, .int .i64 0, .int .i64 0]) rfl rfl (fun g21 w22 hg23 hb24 he25 => ?_)
  obtain ⟨M26, u27, mem28, hsub29, hinv30⟩ := Ext.addVar he25 hm18 hg23 hb24
  have ge31 : ∀ q_, vb g21 q_ → w7.heap.size ≤ q_ := fun q_ hq_ => by rw [hq_]; exact hg23
  have mem32 := Ms.one mem28
  have e33 := Stp.ext e17 he25
  have hm34 := Up.mb u27
  have hs035 : Ms M M26 := fun k h => hsub29 k (hs019 k h)
  have dj36 := Dj.fresh (T := S11) ge31 (EncR.ms hE12) hm18
  have fr37 := Ge.le ge31 (Stp.size e17)
  refine WL.assign rfl ?_
  refine WL.nil ?_
  refine CW.ret ?_
  refine Ret.one rfl rfl ?_
  have mem38 : Ms S11 M26 := (fun k h => hsub29 k ((EncR.ms hE12) k h))
  have h39 := EncR.step hE12 he25 (fun _ _ h => h) u27 mem38
  exact ⟨_, rfl, _, _, ⟨ge9, 0, _, Ms.or mem32 mem38, hb24, .inl rfl, h39, fun _ h => .inr h, (Dj.symm dj36)⟩, Fr.or fr37 fr20, (Up.trans u4 (Up.trans hu14 u27)), hs035, e33⟩
end Go.Proofs.Ytgbajkdomcmblaa
