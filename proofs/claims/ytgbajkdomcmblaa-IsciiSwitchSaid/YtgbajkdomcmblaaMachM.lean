/- What the functions of package machine come to: walks. -/
import Derived.Test.YtgbajkdomcmblaaMachL
namespace Go.Proofs.Ytgbajkdomcmblaa
open Go Go.RowKit Vc
set_option linter.unusedVariables false
set_option linter.unusedSimpArgs false
private theorem mixed : Try.prog.follows .mixedOrders = true := by kernel_rfl
private theorem fo116_0 : fieldOff Try.prog 116 0 = some 0 := by kernel_rfl
private theorem fo116_2 : fieldOff Try.prog 116 2 = some 2 := by kernel_rfl
private theorem es29 : elemSize Try.prog 29 = some 1 := by kernel_rfl
private theorem sc3 : scalar Try.prog 3 = true := by kernel_rfl
private theorem sc110 : scalar Try.prog 110 = true := by kernel_rfl
private theorem ti29 : tinfo Try.prog 29 = some (some (.slice none 0 0), 1, 24) := by kernel_rfl
private theorem ti58 : tinfo Try.prog 58 = some (some (.agg #[.int .i64 0, .int .i64 0, .slice none 0 0, .int .i64 0]), 4, 48) := by kernel_rfl
theorem encPut_spec (w : World) (M : MS) (hm : MB w M) {S : MS} {g : Nat} {rs : List PRule} {wait : List Int} {a : Int} {ahead : List Int} (hE : EncR w M S g rs wait a ahead) (hg : GoodR rs) (ha : 0 ≤ a) (hab : a + wait.length ≤ 999999999) (hla : ahead.length ≤ 8) (u : Int) (hu : I64 u) :
    Fc Try.prog 31 #[.pointer (some ⟨g, 0, none⟩), .int .i64 u] w fun v w' => ∃ M' S', PutR w M S w' M' S' v (joinP rs ahead (takeP (turnP rs) false (wait ++ [u]) a).1).1 ∧ EncR w' M' S' g rs (takeP (turnP rs) false (wait ++ [u]) a).2.1 (takeP (turnP rs) false (wait ++ [u]) a).2.2 (joinP rs ahead (takeP (turnP rs) false (wait ++ [u]) a).1).2 := by
  have e0 := Stp.refl w (S : MS)
  have hs00 : Ms M M := fun _ h => h
  obtain ⟨gm, tb, Aa, ca, S1, hS, hb, hSg, hM, hS1, hd1, hah, hT⟩ := hE
  have hmg : Ms (vb g) M := Ms.one (hS _ hSg)
  have hwe : Wr w.heap.size S (vb g) := fun q_ hq_ => .inl (by rw [hq_]; exact hSg)
  have hwm : Wr w.heap.size S S1 := fun q_ hq_ => .inl (hS1 q_ hq_)
  refine Fc.enter (n := 13) [(0, .pointer (some ⟨g, 0, none⟩)), (1, .int .i64 u)] Try.func31 rfl rfl (Nat.le_of_ble_eq_true rfl) (.cons rfl (.cons rfl (.nil _))) ?_
  refine CW.seq ?_
  refine CW.region ?_
  refine WL.assign rfl ?_
  refine WL.nil ?_
  refine CW.seq ?_
  refine CW.region ?_
  refine WL.move rfl ?_
  refine WL.move rfl ?_
  refine WL.nilCheck rfl ?_
  refine WL.fieldAddr fo116_0 rfl ?_
  refine WL.load sc110 rfl ((Bk.at_ (M := fun _ => False) hb (fun h => h)).cell 0 _ rfl) ?_
  refine WL.move rfl ?_
  refine WL.call Try.func73 rfl rfl (.cons rfl (.cons rfl (.nil))) (put_spec _ _ hm hM hg.turn ha (by omega) _ hu) (fun _ w1 hr2 => ?_)
  obtain ⟨M3, S4, hP5, hM6⟩ := hr2
  obtain ⟨A7, c8, rfl⟩ := Own.form hP5.own
  have e9 := Stp.wr e0 (PutR.stp hP5) hwm
  have hm10 := Up.mb (PutR.up hP5)
  have hs011 : Ms M M3 := fun k h => (PutR.ms hP5) k (hs00 k h)
  have dj12 := Dj.grow hd1 (PutR.wr hP5) hmg hm
  have wr13 := Wr.grow hwm (PutR.wr hP5) (Stp.size e0)
  have dj14 := Dj.fresh (T := (vb g)) (PutR.new hP5) hmg hm
  have fr15 := Ge.le (PutR.new hP5) (Stp.size e0)
  have h16 := Bk.stp hb (PutR.stp hP5) ((Dj.symm hd1) _ rfl)
  have mem17 : Ms (vb g) M3 := (fun k h => (PutR.ms hP5) k (hmg k h))
  refine WL.call Try.func72 rfl rfl (.cons rfl (.cons rfl (.nil))) (encJoin_spec _ _ hm10 h16 (mem17 _ rfl) (hah.up (PutR.up hP5)) (hT.up (PutR.up hP5)) (PutR.own hP5) dj14 (fun x hx => by have := EncR.take_outs hg.turn false _ _ _ (Nat.le_refl _) x hx; omega) (by omega)) (fun _ w18 hr19 => ?_)
  obtain ⟨rfl, M20, A21, c22, hO23, hb24, hah25, hu26, hms27, hst28⟩ := hr19
  have e29 := Stp.wr e9 hst28 (Wr.or hwe (Wr.ofFr S fr15))
  have hm30 := Up.mb hu26
  have hs031 : Ms M M20 := fun k h => hms27 k (hs011 k h)
  refine WL.assign rfl ?_
  refine WL.nil ?_
  refine CW.ret ?_
  refine Ret.one rfl rfl ?_
  have mem32 : Ms S4 M20 := (fun k h => hms27 k ((MatchR.ms hM6) k h))
  have h33 := MatchR.step hM6 hst28 (Dj.or dj12 (Dj.symm (PutR.dj hP5))) hu26 mem32
  have mem34 : Ms (vb g) M20 := (fun k h => hms27 k (mem17 k h))
  exact ⟨_, _, ⟨hO23, fr15, Dj.or dj14 (PutR.dj hP5), (Up.trans (PutR.up hP5) hu26), hs031, e29, Wr.or hwe wr13⟩, gm, tb, _, _, _, Ms.or mem34 mem32, hb24, .inl rfl, h33, fun _ h => .inr h, dj12, hah25, (hT.up (Up.trans (PutR.up hP5) hu26))⟩

theorem encEnd_spec (w : World) (M : MS) (hm : MB w M) {S : MS} {g : Nat} {rs : List PRule} {wait : List Int} {a : Int} {ahead : List Int} (hE : EncR w M S g rs wait a ahead) (hg : GoodR rs) (ha : 0 ≤ a) (hab : a + wait.length ≤ 999999999) (hla : ahead.length ≤ 8) :
    Fc Try.prog 79 #[.pointer (some ⟨g, 0, none⟩)] w fun v w' => ∃ M' S', PutR w M S w' M' S' v (joinP rs ahead (takeP (turnP rs) true wait a).1).1 ∧ EncR w' M' S' g rs (takeP (turnP rs) true wait a).2.1 (takeP (turnP rs) true wait a).2.2 (joinP rs ahead (takeP (turnP rs) true wait a).1).2 := by
  have e0 := Stp.refl w (S : MS)
  have hs00 : Ms M M := fun _ h => h
  obtain ⟨gm, tb, Aa, ca, S1, hS, hb, hSg, hM, hS1, hd1, hah, hT⟩ := hE
  have hmg : Ms (vb g) M := Ms.one (hS _ hSg)
  have hwe : Wr w.heap.size S (vb g) := fun q_ hq_ => .inl (by rw [hq_]; exact hSg)
  have hwm : Wr w.heap.size S S1 := fun q_ hq_ => .inl (hS1 q_ hq_)
  refine Fc.enter (n := 10) [(0, .pointer (some ⟨g, 0, none⟩))] Try.func79 rfl rfl (Nat.le_of_ble_eq_true rfl) (.cons rfl (.nil _)) ?_
  refine CW.seq ?_
  refine CW.region ?_
  refine WL.assign rfl ?_
  refine WL.nil ?_
  refine CW.seq ?_
  refine CW.region ?_
  refine WL.move rfl ?_
  refine WL.move rfl ?_
  refine WL.nilCheck rfl ?_
  refine WL.fieldAddr fo116_0 rfl ?_
  refine WL.load sc110 rfl ((Bk.at_ (M := fun _ => False) hb (fun h => h)).cell 0 _ rfl) ?_
  refine WL.call Try.func95 rfl rfl (.cons rfl (.nil)) (end_spec _ _ hm hM hg.turn ha (by omega)) (fun _ w1 hr2 => ?_)
  obtain ⟨M3, S4, hP5, hM6⟩ := hr2
  obtain ⟨A7, c8, rfl⟩ := Own.form hP5.own
  have e9 := Stp.wr e0 (PutR.stp hP5) hwm
  have hm10 := Up.mb (PutR.up hP5)
  have hs011 : Ms M M3 := fun k h => (PutR.ms hP5) k (hs00 k h)
  have dj12 := Dj.grow hd1 (PutR.wr hP5) hmg hm
  have wr13 := Wr.grow hwm (PutR.wr hP5) (Stp.size e0)
  have dj14 := Dj.fresh (T := (vb g)) (PutR.new hP5) hmg hm
  have fr15 := Ge.le (PutR.new hP5) (Stp.size e0)
  have h16 := Bk.stp hb (PutR.stp hP5) ((Dj.symm hd1) _ rfl)
  have mem17 : Ms (vb g) M3 := (fun k h => (PutR.ms hP5) k (hmg k h))
  refine WL.call Try.func72 rfl rfl (.cons rfl (.cons rfl (.nil))) (encJoin_spec _ _ hm10 h16 (mem17 _ rfl) (hah.up (PutR.up hP5)) (hT.up (PutR.up hP5)) (PutR.own hP5) dj14 (fun x hx => by have := EncR.take_outs hg.turn true _ _ _ (Nat.le_refl _) x hx; omega) (by omega)) (fun _ w18 hr19 => ?_)
  obtain ⟨rfl, M20, A21, c22, hO23, hb24, hah25, hu26, hms27, hst28⟩ := hr19
  have e29 := Stp.wr e9 hst28 (Wr.or hwe (Wr.ofFr S fr15))
  have hm30 := Up.mb hu26
  have hs031 : Ms M M20 := fun k h => hms27 k (hs011 k h)
  refine WL.assign rfl ?_
  refine WL.nil ?_
  refine CW.ret ?_
  refine Ret.one rfl rfl ?_
  have mem32 : Ms S4 M20 := (fun k h => hms27 k ((MatchR.ms hM6) k h))
  have h33 := MatchR.step hM6 hst28 (Dj.or dj12 (Dj.symm (PutR.dj hP5))) hu26 mem32
  have mem34 : Ms (vb g) M20 := (fun k h => hms27 k (mem17 k h))
  exact ⟨_, _, ⟨hO23, fr15, Dj.or dj14 (PutR.dj hP5), (Up.trans (PutR.up hP5) hu26), hs031, e29, Wr.or hwe wr13⟩, gm, tb, _, _, _, Ms.or mem34 mem32, hb24, .inl rfl, h33, fun _ h => .inr h, dj12, hah25, (hT.up (Up.trans (PutR.up hP5) hu26))⟩

theorem encHeld_spec (w : World) (M : MS) (hm : MB w M) {S : MS} {g : Nat} {rs : List PRule} {wait : List Int} {a : Int} {ahead : List Int} (hE : EncR w M S g rs wait a ahead) :
    Fc Try.prog 32 #[.pointer (some ⟨g, 0, none⟩)] w fun v w' => v = .int .i64 (wait.length : Int) ∧ Ext w w' := by
  have e0 := Stp.refl w (NoM : MS)
  have hs00 : Ms M M := fun _ h => h
  obtain ⟨gm, tb, Aa, ca, S1, hS, hb, hSg, hM, hS1, hd1, hah, hT⟩ := hE
  have hmg : Ms (vb g) M := Ms.one (hS _ hSg)
  have hwe : Wr w.heap.size S (vb g) := fun q_ hq_ => .inl (by rw [hq_]; exact hSg)
  have hwm : Wr w.heap.size S S1 := fun q_ hq_ => .inl (hS1 q_ hq_)
  refine Fc.enter (n := 8) [(0, .pointer (some ⟨g, 0, none⟩))] Try.func32 rfl rfl (Nat.le_of_ble_eq_true rfl) (.cons rfl (.nil _)) ?_
  refine CW.seq ?_
  refine CW.region ?_
  refine WL.assign rfl ?_
  refine WL.nil ?_
  refine CW.seq ?_
  refine CW.region ?_
  refine WL.move rfl ?_
  refine WL.nilCheck rfl ?_
  refine WL.fieldAddr fo116_0 rfl ?_
  refine WL.load sc110 rfl ((Bk.at_ (M := fun _ => False) hb (fun h => h)).cell 0 _ rfl) ?_
  refine WL.call Try.func74 rfl rfl (.cons rfl (.nil)) (held_spec _ _ hm hM) (fun _ w1 hr2 => ?_)
  obtain ⟨rfl, he3⟩ := hr2
  have u4 := Ext.up he3 hm
  have e5 := Stp.ext e0 he3
  have hm6 := Up.mb u4
  refine WL.assign rfl ?_
  refine WL.nil ?_
  refine CW.ret ?_
  refine Ret.one rfl rfl ?_
  exact ⟨rfl, e5⟩

theorem encApart_spec (w : World) (M : MS) (hm : MB w M) {S : MS} {g : Nat} {rs : List PRule} {wait : List Int} {a : Int} {ahead : List Int} (hE : EncR w M S g rs wait a ahead) :
    Fc Try.prog 37 #[.pointer (some ⟨g, 0, none⟩)] w fun v w' => ∃ M' S', EncR w' M' S' g rs wait a [] ∧ Up w M w' M' ∧ Ms M M' ∧ Stp w w' S ∧ Wr w.heap.size S S' := by
  have e0 := Stp.refl w (S : MS)
  have hs00 : Ms M M := fun _ h => h
  obtain ⟨gm, tb, Aa, ca, S1, hS, hb, hSg, hM, hS1, hd1, hah, hT⟩ := hE
  have hmg : Ms (vb g) M := Ms.one (hS _ hSg)
  have hwe : Wr w.heap.size S (vb g) := fun q_ hq_ => .inl (by rw [hq_]; exact hSg)
  have hwm : Wr w.heap.size S S1 := fun q_ hq_ => .inl (hS1 q_ hq_)
  refine Fc.enter (n := 5) [(0, .pointer (some ⟨g, 0, none⟩))] Try.func37 rfl rfl (Nat.le_of_ble_eq_true rfl) (.cons rfl (.nil _)) ?_
  refine CW.region ?_
  refine WL.move rfl ?_
  refine WL.nilCheck rfl ?_
  refine WL.fieldAddr fo116_2 rfl ?_
  refine WL.store (o := 2) (by rw [ti29]; rfl) rfl rfl rfl hb (Nat.le_of_ble_eq_true rfl) (fun w1 hb5 hs3 => ?_)
  have hb2 : Bk w1 g 116 [.pointer (some ⟨gm, 0, none⟩), .pointer (some ⟨tb, 0, none⟩), .slice none 0 0] := hb5
  have u4 := Stp.upM hs3 hm hmg
  have e6 := Stp.wr e0 hs3 hwe
  have hm7 := Up.mb u4
  refine WL.nil ?_
  have mem8 : Ms S1 M := (MatchR.ms hM)
  have h9 := MatchR.step hM hs3 hd1 u4 mem8
  refine Ret.zero rfl ?_
  exact ⟨M, _, ⟨gm, tb, none, 0, S1, Ms.or hmg mem8, hb2, .inl rfl, h9, fun _ h => .inr h, hd1, SlD.empty (fun _ => rfl), (hT.up u4)⟩, u4, hs00, e6, Wr.or hwe hwm⟩

theorem decode_spec (w : World) (M : MS) (hm : MB w M) {g : Nat} {rs : List PRule} (hT : TableR w M g rs) :
    Fc Try.prog 27 #[.pointer (some ⟨g, 0, none⟩)] w fun v w' => ∃ gd, v = .iface 109 (.pointer (some ⟨gd, 0, none⟩)) ∧ ∃ M' S', DecO gd rs w' M' S' ([], 0) ∧ (∀ k, S' k → w.heap.size ≤ k) ∧ Up w M w' M' ∧ Ms M M' ∧ Ext w w' := by
  have e0 := Stp.refl w (NoM : MS)
  have hs00 : Ms M M := fun _ h => h
  obtain ⟨gr, gw, hp, hTr, hTw⟩ := hT
  refine Fc.enter (n := 9) [(0, .pointer (some ⟨g, 0, none⟩))] Try.func27 rfl rfl (Nat.le_of_ble_eq_true rfl) (.cons rfl (.nil _)) ?_
  refine CW.seq ?_
  refine CW.region ?_
  refine WL.assign rfl ?_
  refine WL.nil ?_
  refine CW.seq ?_
  refine CW.region ?_
  refine WL.move rfl ?_
  refine WL.call Try.func69 rfl rfl (.cons rfl (.nil)) (tableRead_spec _ _ hm hp) (fun _ w1 hr2 => ?_)
  obtain ⟨rfl, he3⟩ := hr2
  have u4 := Ext.up he3 hm
  have e5 := Stp.ext e0 he3
  have hm6 := Up.mb u4
  refine WL.call Try.func68 rfl rfl (.cons rfl (.nil)) (matchOf_spec _ _ hm6 (hTr.up u4)) (fun _ w7 hr8 => ?_)
  obtain ⟨gm9, rfl, M10, S11, hM12, hnw13, hu14, hms15, he16⟩ := hr8
  have e17 := Stp.ext e5 he16
  have hm18 := Up.mb hu14
  have hs019 : Ms M M10 := fun k h => hms15 k (hs00 k h)
  have fr20 := Ge.le hnw13 (Stp.size e5)
  refine WL.buildP (cs := #[.pointer (some ⟨gm9, 0, none⟩)]) (.cons rfl (.nil)) (by kernel_rfl) ?_
  refine WL.box (cs := [.pointer (some ⟨gm9, 0, none⟩)]) rfl rfl (fun g21 w22 hg23 hb24 he25 => ?_)
  obtain ⟨M26, u27, mem28, hsub29, hinv30⟩ := Ext.addVar he25 hm18 hg23 hb24
  have ge31 : ∀ q_, vb g21 q_ → w7.heap.size ≤ q_ := fun q_ hq_ => by rw [hq_]; exact hg23
  have mem32 := Ms.one mem28
  have e33 := Stp.ext e17 he25
  have hm34 := Up.mb u27
  have hs035 : Ms M M26 := fun k h => hsub29 k (hs019 k h)
  have dj36 := Dj.fresh (T := S11) ge31 (MatchR.ms hM12) hm18
  have fr37 := Ge.le ge31 (Stp.size e17)
  refine WL.makeInterface Try.underlying109 rfl rfl ?_
  refine WL.assign rfl ?_
  refine WL.nil ?_
  refine CW.ret ?_
  refine Ret.one rfl rfl ?_
  have mem38 : Ms S11 M26 := (fun k h => hsub29 k ((MatchR.ms hM12) k h))
  have h39 := MatchR.step hM12 he25 (fun _ _ h => h) u27 mem38
  exact ⟨_, rfl, _, _, ⟨gm9, _, Ms.or mem32 mem38, hb24, .inl rfl, h39, fun _ h => .inr h, (Dj.symm dj36)⟩, Fr.or fr37 fr20, (Up.trans u4 (Up.trans hu14 u27)), hs035, e33⟩

theorem encode_spec (w : World) (M : MS) (hm : MB w M) {g : Nat} {rs : List PRule} (hT : TableR w M g rs) :
    Fc Try.prog 29 #[.pointer (some ⟨g, 0, none⟩)] w fun v w' => ∃ ge, v = .pointer (some ⟨ge, 0, none⟩) ∧ ∃ M' S', EncO ge rs w' M' S' ⟨[], 0, []⟩ ∧ (∀ k, S' k → w.heap.size ≤ k) ∧ Up w M w' M' ∧ Ms M M' ∧ Ext w w' := by
  have e0 := Stp.refl w (NoM : MS)
  have hs00 : Ms M M := fun _ h => h
  have hT0 := hT
  obtain ⟨gr, gw, hp, hTr, hTw⟩ := hT
  refine Fc.enter (n := 9) [(0, .pointer (some ⟨g, 0, none⟩))] Try.func29 rfl rfl (Nat.le_of_ble_eq_true rfl) (.cons rfl (.nil _)) ?_
  refine CW.seq ?_
  refine CW.region ?_
  refine WL.assign rfl ?_
  refine WL.nil ?_
  refine CW.seq ?_
  refine CW.region ?_
  refine WL.move rfl ?_
  refine WL.call Try.func71 rfl rfl (.cons rfl (.nil)) (tableWrite_spec _ _ hm hp) (fun _ w1 hr2 => ?_)
  obtain ⟨rfl, he3⟩ := hr2
  have u4 := Ext.up he3 hm
  have e5 := Stp.ext e0 he3
  have hm6 := Up.mb u4
  refine WL.call Try.func68 rfl rfl (.cons rfl (.nil)) (matchOf_spec _ _ hm6 (hTw.up u4)) (fun _ w7 hr8 => ?_)
  obtain ⟨gm9, rfl, M10, S11, hM12, hnw13, hu14, hms15, he16⟩ := hr8
  have e17 := Stp.ext e5 he16
  have hm18 := Up.mb hu14
  have hs019 : Ms M M10 := fun k h => hms15 k (hs00 k h)
  have fr20 := Ge.le hnw13 (Stp.size e5)
  refine WL.move rfl ?_
  refine WL.buildP (cs := #[.pointer (some ⟨gm9, 0, none⟩), .pointer (some ⟨g, 0, none⟩), .slice none 0 0]) (.cons rfl (.cons rfl (.nil))) (by kernel_rfl) ?_
  refine WL.box (cs := [.pointer (some ⟨gm9, 0, none⟩), .pointer (some ⟨g, 0, none⟩), .slice none 0 0]) rfl rfl (fun g21 w22 hg23 hb24 he25 => ?_)
  obtain ⟨M26, u27, mem28, hsub29, hinv30⟩ := Ext.addVar he25 hm18 hg23 hb24
  have ge31 : ∀ q_, vb g21 q_ → w7.heap.size ≤ q_ := fun q_ hq_ => by rw [hq_]; exact hg23
  have mem32 := Ms.one mem28
  have e33 := Stp.ext e17 he25
  have hm34 := Up.mb u27
  have hs035 : Ms M M26 := fun k h => hsub29 k (hs019 k h)
  have dj36 := Dj.fresh (T := S11) ge31 (MatchR.ms hM12) hm18
  have fr37 := Ge.le ge31 (Stp.size e17)
  refine WL.assign rfl ?_
  refine WL.nil ?_
  refine CW.ret ?_
  refine Ret.one rfl rfl ?_
  have mem38 : Ms S11 M26 := (fun k h => hsub29 k ((MatchR.ms hM12) k h))
  have h39 := MatchR.step hM12 he25 (fun _ _ h => h) u27 mem38
  exact ⟨_, rfl, _, _, ⟨gm9, g, none, 0, _, Ms.or mem32 mem38, hb24, .inl rfl, h39, fun _ h => .inr h, (Dj.symm dj36), SlD.empty (fun _ => rfl), (hT0.up (Up.trans u4 (Up.trans hu14 u27)))⟩, Fr.or fr37 fr20, (Up.trans u4 (Up.trans hu14 u27)), hs035, e33⟩

theorem all_spec {τ : Type} {t : TypeId} {v : Value} {Obj : World → MS → MS → τ → Prop} {put : τ → Int → List PTok × τ} {fin : τ → List PTok × τ} {ok : τ → Nat → Prop} (hX : Mach τ t v Obj put fin ok) (w : World) (M : MS) (hm : MB w M) {Ap1 : Option Addr} {cp1 : Nat} {us : List Int} (h1 : SlD IntR 1 w M Ap1 cp1 us) {S : MS} {s : τ} (hO : Obj w M S s) (hok0 : ok s us.length) (hul : us.length ≤ 1000) :
    Fc Try.prog 34 #[.iface t v, .slice Ap1 us.length cp1] w fun v w' => ∃ M' S', PutR w M S w' M' S' v (allP put fin us s).1 ∧ Obj w' M' S' (allP put fin us s).2 := by
  have e0 := Stp.refl w (S : MS)
  have hs00 : Ms M M := fun _ h => h
  have hlim := h1.lim
  refine Fc.enter (n := 24) [(0, .iface t v), (1, .slice Ap1 us.length cp1)] Try.func34 rfl rfl (Nat.le_of_ble_eq_true rfl) (.cons rfl (.cons rfl (.nil _))) ?_
  refine CW.seq ?_
  refine CW.region ?_
  refine WL.assign rfl ?_
  refine WL.nil ?_
  refine CW.seq ?_
  refine CW.region ?_
  refine WL.assign rfl ?_
  refine WL.nil ?_
  refine CW.seq ?_
  refine CW.seq ?_
  refine CW.region ?_
  refine WL.move rfl ?_
  refine WL.len Try.underlying29 rfl ?_
  refine WL.move rfl ?_
  refine WL.nil ?_
  refine CW.block ?_
  have hO1 : Own TokR 4 58 w M 0 (.slice none 0 0) [] := Own.nil
  have dj2 : Dj (ob (.slice none 0 0)) S := Dj.nil _
  refine CW.loop (fun m σ wr0 => ∃ k : Nat, ∃ s2 : τ, ∃ out : List PTok, ∃ Sg : MS, ∃ Mr3 : MS, ∃ A11 : Option Addr, ∃ n12 : Nat, ∃ c13 : Nat, m = us.length - k ∧ σ = [(0, .iface t v), (5, .slice A11 n12 c13), (8, .slice Ap1 us.length cp1), (9, .int .i64 (us.length : Int)), (10, .int .i64 (k : Int))] ∧ (Up w M wr0 Mr3) ∧ (Stp w wr0 S) ∧ (Ms M Mr3) ∧ (Ms M Mr3) ∧ (Obj wr0 Mr3 Sg s2) ∧ (Own TokR 4 58 wr0 Mr3 0 (.slice A11 n12 c13) (out)) ∧ (Ms (Sg) Mr3) ∧ (Wr w.heap.size S (Sg)) ∧ (Dj (Sg) (ob (.slice A11 n12 c13))) ∧ (Ms (ob (.slice A11 n12 c13)) Mr3) ∧ (∀ q_, (ob (.slice A11 n12 c13)) q_ → w.heap.size ≤ q_) ∧ (k ≤ us.length) ∧ (runP put (us.take k) s = (out, s2)) ∧ (ok s2 (us.length - k)) ∧ (out.length ≤ 1000000000 * k)) _ _ (.cons (t := 0) rfl (.cons (t := 5) rfl (.cons (t := 8) rfl (.cons (t := 9) rfl (.cons (t := 10) rfl (.nil _)))))) ⟨0, s, [], S, M, none, 0, 0, rfl, rfl, Up.refl hm, e0, fun _ h => h, hs00, hO, hO1, (hX.ms hO), (Wr.self w.heap.size S), (Dj.symm dj2), (Ms.nil M), (Fr.nil w.heap.size), by omega, rfl, by simpa using hok0, by simp⟩ ?_
  rintro m _ wr0 ⟨k, s2, out, Sg, Mr3, A11, n12, c13, rfl, rfl, hU4, hE5, hsp7, hsb8, h9, h10, mem14, wr15, dj16, mem17, wr18, hk, hr, hok, hol⟩
  have hm6 := Up.mb hU4
  obtain rfl := Own.n h10
  have hlen19 := Own.len h10
  refine CW.seq ?_
  refine CW.region ?_
  refine WL.lss rfl rfl ?_
  refine WL.nil ?_
  refine CW.seq ?_
  refine CW.condP rfl (fun hc20 => ?_) (fun hc20 => ?_)
  · have hkl : k < us.length := by omega
    have hok2 : ok s2 (us.length - k - 1 + 1) := by rw [show us.length - k - 1 + 1 = us.length - k by omega]; exact hok
    have hoks := hX.oks (u := us[k]) hok2
    have hui : I64 us[k] := SlD.i64 h1 hkl
    refine CW.skip ?_
    refine CW.seq ?_
    refine CW.block ?_
    refine CW.seq ?_
    refine CW.region ?_
    have hlt21 : k < us.length := by omega
    obtain ⟨ad22, cs23, hA24, hs25, hat26, hR27⟩ := SlD.get (h1.up hU4) (List.getElem?_eq_getElem hlt21)
    rw [show _ = _ from hR27.1] at hat26
    have hhR27 := hR27.2; simp only [I64] at hhR27
    refine WL.idx es29 rfl rfl hA24 (by omega) (by omega) ?_
    refine WL.load sc3 rfl (hat26.cell 0 _ rfl) ?_
    refine WL.assign rfl ?_
    refine WL.nil ?_
    refine CW.region ?_
    refine WL.move rfl ?_
    refine WL.move rfl ?_
    refine WL.move rfl ?_
    obtain ⟨f28, r29, fn30, hm31, hf32, hn33, hb34, hF35⟩ := hX.put (u := us[k]) h9 hm6 hok2 hui
    refine WL.invoke rfl hm31 hf32 hn33 hb34 (.cons rfl (.nil)) (hF35) (fun _ w36 hr37 => ?_)
    obtain ⟨M38, S39, hP40, hM41⟩ := hr37
    obtain ⟨A42, c43, rfl⟩ := Own.form hP40.own
    have e44 := Stp.wr hE5 (PutR.stp hP40) wr15
    have hm45 := Up.mb (PutR.up hP40)
    have hs046 : Ms M M38 := fun k h => (PutR.ms hP40) k (hsp7 k h)
    have dj47 := Dj.grow dj16 (PutR.wr hP40) mem17 hm6
    have wr48 := Wr.grow wr15 (PutR.wr hP40) (Stp.size hE5)
    have dj49 := Dj.fresh (T := (ob (.slice A11 out.length c13))) (PutR.new hP40) mem17 hm6
    have fr50 := Ge.le (PutR.new hP40) (Stp.size hE5)
    have mem60 : Ms (ob (.slice A11 out.length c13)) M38 := (fun k h => (PutR.ms hP40) k (mem17 k h))
    have h61 := Own.step h10 (PutR.stp hP40) (Dj.symm dj16) (PutR.up hP40) mem60
    refine WL.appendR Try.underlying55 ti58 rfl (by decide) rfl rfl h61 (Own.atl (PutR.own hP40)) hm45 (by decide) (by first | omega | (simp; omega)) (fun A51 c52 w53 M54 hO55 hs56 u57 hsub58 hnew59 => ?_)
    have e62 := Stp.wr e44 hs56 (Wr.ofFr S wr18)
    have hm63 := Up.mb u57
    have hs064 : Ms M M54 := fun k h => hsub58 k (hs046 k h)
    have dj65 := Dj.grow (Dj.symm dj47) hnew59 (hX.ms hM41) hm45
    have dj66 := Dj.grow (Dj.symm dj49) hnew59 (Own.ms (PutR.own hP40)) hm45
    have fr68 := Ge.grow wr18 hnew59 (Stp.size e44)
    refine WL.assign rfl ?_
    refine WL.nil ?_
    refine CW.region ?_
    refine WL.add rfl rfl (by omega) ?_
    refine WL.move rfl ?_
    refine WL.nil ?_
    have mem69 : Ms S39 M54 := (fun k h => hsub58 k ((hX.ms hM41) k h))
    have h70 := hX.step hM41 hs56 dj47 u57 mem69
    refine Loop.again _ _ ?_ ?_ ⟨k + 1, (put s2 us[k]).2, out ++ (put s2 us[k]).1, S39, M54, A51, (out ++ ((put s2 us[k]).1)).length, c52, rfl, rfl, (Up.trans hU4 (Up.trans (PutR.up hP40) u57)), e62, hs064, hs064, h70, hO55, mem69, wr48, (Dj.symm dj65), (Own.ms hO55), fr68, by omega, run_take_succ put hkl hr, by rw [show us.length - (k + 1) = us.length - k - 1 by omega]; exact hoks.1, by simp only [List.length_append]; omega⟩
    · omega
    · exact .cons (t := 0) rfl (.cons (t := 5) rfl (.cons (t := 8) rfl (.cons (t := 9) rfl (.cons (t := 10) rfl (.nil _)))))
  · have hke : k = us.length := by omega
    have hok2 := hok
    have hoks := hX.okf hok2
    refine CW.exit ?_
    refine CW.seq ?_
    refine CW.region ?_
    refine WL.move rfl ?_
    refine WL.move rfl ?_
    obtain ⟨f71, r72, fn73, hm74, hf75, hn76, hb77, hF78⟩ := hX.fin h9 hm6 hok2
    refine WL.invoke rfl hm74 hf75 hn76 hb77 (.nil) (hF78) (fun _ w79 hr80 => ?_)
    obtain ⟨M81, S82, hP83, hM84⟩ := hr80
    obtain ⟨A85, c86, rfl⟩ := Own.form hP83.own
    have e87 := Stp.wr hE5 (PutR.stp hP83) wr15
    have hm88 := Up.mb (PutR.up hP83)
    have hs089 : Ms M M81 := fun k h => (PutR.ms hP83) k (hsp7 k h)
    have dj90 := Dj.grow dj16 (PutR.wr hP83) mem17 hm6
    have wr91 := Wr.grow wr15 (PutR.wr hP83) (Stp.size hE5)
    have dj92 := Dj.fresh (T := (ob (.slice A11 out.length c13))) (PutR.new hP83) mem17 hm6
    have fr93 := Ge.le (PutR.new hP83) (Stp.size hE5)
    have mem103 : Ms (ob (.slice A11 out.length c13)) M81 := (fun k h => (PutR.ms hP83) k (mem17 k h))
    have h104 := Own.step h10 (PutR.stp hP83) (Dj.symm dj16) (PutR.up hP83) mem103
    refine WL.appendR Try.underlying55 ti58 rfl (by decide) rfl rfl h104 (Own.atl (PutR.own hP83)) hm88 (by decide) (by first | omega | (simp; omega)) (fun A94 c95 w96 M97 hO98 hs99 u100 hsub101 hnew102 => ?_)
    have e105 := Stp.wr e87 hs99 (Wr.ofFr S wr18)
    have hm106 := Up.mb u100
    have hs0107 : Ms M M97 := fun k h => hsub101 k (hs089 k h)
    have dj108 := Dj.grow (Dj.symm dj90) hnew102 (hX.ms hM84) hm88
    have dj109 := Dj.grow (Dj.symm dj92) hnew102 (Own.ms (PutR.own hP83)) hm88
    have fr111 := Ge.grow wr18 hnew102 (Stp.size e87)
    refine WL.assign rfl ?_
    refine WL.nil ?_
    refine CW.ret ?_
    refine Ret.one rfl rfl ?_
    have hfin : allP put fin us s = (out ++ (fin s2).1, (fin s2).2) := by
      have hr2 : runP put us s = (out, s2) := by rw [← hr, hke, List.take_length]
      simp only [allP, hr2]
    rw [hfin]
    have mem112 : Ms S82 M97 := (fun k h => hsub101 k ((hX.ms hM84) k h))
    have h113 := hX.step hM84 hs99 dj90 u100 mem112
    exact ⟨_, _, ⟨hO98, fr111, dj108, (Up.trans hU4 (Up.trans (PutR.up hP83) u100)), hs0107, e105, wr91⟩, h113⟩
end Go.Proofs.Ytgbajkdomcmblaa
