/- The rules of ISCII, as the laws make them: walks. -/
import Derived.Test.YtgbajkdomcmblaaIndB
namespace Go.Proofs.Ytgbajkdomcmblaa
open Go Go.RowKit Vc
set_option linter.unusedVariables false
set_option linter.unusedSimpArgs false
private theorem mixed : Try.prog.follows .mixedOrders = true := by kernel_rfl
private theorem es29 : elemSize Try.prog 29 = some 1 := by kernel_rfl
private theorem es150 : elemSize Try.prog 150 = some 2 := by kernel_rfl
private theorem esa152 : elemSizeA Try.prog 152 = some (2, 1) := by kernel_rfl
private theorem sc3 : scalar Try.prog 3 = true := by kernel_rfl
private theorem sc49 : scalar Try.prog 49 = true := by kernel_rfl
private theorem ag152 : aggSize Try.prog 152 = some 2 := by kernel_rfl
private theorem ti3 : tinfo Try.prog 3 = some (some (.int .i64 0), 1, 8) := by kernel_rfl
private theorem ti49 : tinfo Try.prog 49 = some (some (.slice none 0 0), 1, 24) := by kernel_rfl
private theorem ti100 : tinfo Try.prog 100 = some (some (.agg #[.slice none 0 0, .slice none 0 0]), 2, 48) := by kernel_rfl
private theorem ti152 : tinfo Try.prog 152 = some (some (.agg #[.int .i64 0, .int .i64 0]), 2, 16) := by kernel_rfl
def lowL : List Int := [1, 2, 3, 5, 6, 7, 8, 9, 10, 11, 14, 15, 16, 13, 18, 19, 20, 17, 21, 22, 23, 24, 25, 26, 27, 28, 29, 30, 31, 32, 33, 34, 35, 36, 37, 38, 39, 40, 41, 42, 43, 44, 45, 46, 47, 95, 48, 49, 50, 51, 52, 53, 54, 55, 56, 57]
def highL : List Int := [62, 63, 64, 65, 66, 67, 70, 71, 72, 69, 74, 75, 76, 73, 77, 60]
theorem low_eq (i : Nat) (h : i < lowL.length) : lowL[i] = placesL.getD i 0 ∧ 0 ≤ placesL.getD i 0 := by
  have : ∀ i, (h : i < lowL.length) → lowL[i] = placesL.getD i 0 ∧ 0 ≤ placesL.getD i 0 := by decide
  exact this i h
theorem high_eq (i : Nat) (h : i < highL.length) : highL[i] = placesL.getD (57 + i) 0 ∧ 0 ≤ placesL.getD (57 + i) 0 := by
  have : ∀ i, (h : i < highL.length) → highL[i] = placesL.getD (57 + i) 0 ∧ 0 ≤ placesL.getD (57 + i) 0 := by decide
  exact this i h
theorem codes_get {k : Nat} (h : k < codesL.length) : codesL.getD k 0 = codesL[k] := by simp [List.getD, List.getElem?_eq_getElem h]
/-- A variable that holds rules of ours. -/
def RulesVar (w : World) (M S : MS) (g : Nat) (xs : List PRule) : Prop := ∃ A c, Ms S M ∧ Bk w g 49 [.slice A xs.length c] ∧ S g ∧ Own RuleR 2 100 w M 0 (.slice A xs.length c) xs ∧ Ms (ob (.slice A xs.length c)) S
theorem RulesVar.ms {w : World} {M S : MS} {g : Nat} {xs : List PRule} (h : RulesVar w M S g xs) : Ms S M := by obtain ⟨_, _, h, _⟩ := h; exact h
theorem RulesVar.eq {w : World} {M S : MS} {g : Nat} {xs ys : List PRule} (h : RulesVar w M S g xs) (he : xs = ys) : RulesVar w M S g ys := he ▸ h
theorem RulesVar.step {w w' : World} {M M' S X : MS} {g : Nat} {xs : List PRule} (h : RulesVar w M S g xs) (hs : Stp w w' X) (hd : Dj S X) (u : Up w M w' M') (hm : Ms S M') : RulesVar w' M' S g xs := by
  obtain ⟨A, c, h1, h2, h3, h4, h5⟩ := h
  exact ⟨A, c, hm, h2.stp hs (hd g h3), h3, h4.step hs (fun k hk => hd k (h5 k hk)) u (fun k hk => hm k (h5 k hk)), h5⟩

theorem lawPlace_spec (w : World) (M : MS) (hm : MB w M) {c_ : Int} (h0 : 0 ≤ c_) (h1 : c_ ≤ 255) :
    Fc Try.prog 99 #[.int .u8 c_] w fun v w' => v = placeV (placeO c_) ∧ Ext w w' := by
  have e0 := Stp.refl w (NoM : MS)
  have hs00 : Ms M M := fun _ h => h
  refine Fc.enter (n := 42) [(0, .int .u8 c_)] Try.func99 rfl rfl (Nat.le_of_ble_eq_true rfl) (.cons rfl (.nil _)) ?_
  refine CW.seq ?_
  refine CW.region ?_
  refine WL.assign rfl ?_
  refine WL.assign rfl ?_
  refine WL.nil ?_
  refine CW.seq ?_
  refine CW.region ?_
  refine WL.bslice Try.underlying29 ti3 rfl (by decide) (by decide) (.cons rfl (.cons rfl (.cons rfl (.cons rfl (.cons rfl (.cons rfl (.cons rfl (.cons rfl (.cons rfl (.cons rfl (.cons rfl (.cons rfl (.cons rfl (.cons rfl (.cons rfl (.cons rfl (.cons rfl (.cons rfl (.cons rfl (.cons rfl (.cons rfl (.cons rfl (.cons rfl (.cons rfl (.cons rfl (.cons rfl (.cons rfl (.cons rfl (.cons rfl (.cons rfl (.cons rfl (.cons rfl (.cons rfl (.cons rfl (.cons rfl (.cons rfl (.cons rfl (.cons rfl (.cons rfl (.cons rfl (.cons rfl (.cons rfl (.cons rfl (.cons rfl (.cons rfl (.cons rfl (.cons rfl (.cons rfl (.cons rfl (.cons rfl (.cons rfl (.cons rfl (.cons rfl (.cons rfl (.cons rfl (.cons rfl (.nil))))))))))))))))))))))))))))))))))))))))))))))))))))))))) rfl (by simp [Value.cells]) (fun g1 w2 hg3 hb4 he5 => ?_)
  have hD6 : SlD IntR 1 w2 M (some ⟨g1, 0, none⟩) 56 ([1, 2, 3, 5, 6, 7, 8, 9, 10, 11, 14, 15, 16, 13, 18, 19, 20, 17, 21, 22, 23, 24, 25, 26, 27, 28, 29, 30, 31, 32, 33, 34, 35, 36, 37, 38, 39, 40, 41, 42, 43, 44, 45, 46, 47, 95, 48, 49, 50, 51, 52, 53, 54, 55, 56, 57] : List Int) := Bk.ints (xs := [1, 2, 3, 5, 6, 7, 8, 9, 10, 11, 14, 15, 16, 13, 18, 19, 20, 17, 21, 22, 23, 24, 25, 26, 27, 28, 29, 30, 31, 32, 33, 34, 35, 36, 37, 38, 39, 40, 41, 42, 43, 44, 45, 46, 47, 95, 48, 49, 50, 51, 52, 53, 54, 55, 56, 57]) hb4 (by decide) (MB.fresh hm hg3) (Nat.le_of_ble_eq_true rfl)
  have u7 := Ext.up he5 hm
  have e8 := Stp.ext e0 he5
  have hm9 := Up.mb u7
  change SlD IntR 1 _ _ _ _ lowL at hD6
  refine WL.assign rfl ?_
  refine WL.nil ?_
  refine CW.seq ?_
  refine CW.region ?_
  refine WL.bslice Try.underlying29 ti3 rfl (by decide) (by decide) (.cons rfl (.cons rfl (.cons rfl (.cons rfl (.cons rfl (.cons rfl (.cons rfl (.cons rfl (.cons rfl (.cons rfl (.cons rfl (.cons rfl (.cons rfl (.cons rfl (.cons rfl (.cons rfl (.nil))))))))))))))))) rfl (by simp [Value.cells]) (fun g10 w11 hg12 hb13 he14 => ?_)
  have hD15 : SlD IntR 1 w11 M (some ⟨g10, 0, none⟩) 16 ([62, 63, 64, 65, 66, 67, 70, 71, 72, 69, 74, 75, 76, 73, 77, 60] : List Int) := Bk.ints (xs := [62, 63, 64, 65, 66, 67, 70, 71, 72, 69, 74, 75, 76, 73, 77, 60]) hb13 (by decide) (MB.fresh hm9 hg12) (Nat.le_of_ble_eq_true rfl)
  have u16 := Ext.up he14 hm9
  have e17 := Stp.ext e8 he14
  have hm18 := Up.mb u16
  change SlD IntR 1 _ _ _ _ highL at hD15
  refine WL.assign rfl ?_
  refine WL.nil ?_
  refine CW.seq ?_
  refine CW.region ?_
  refine WL.move rfl ?_
  refine WL.convert (by rw [Try.underlying5]; rfl) Try.underlying3 rfl (wrapI64 (by omega)) ?_
  refine WL.assign rfl ?_
  refine WL.nil ?_
  refine CW.seq ?_
  refine CW.seq ?_
  refine CW.region ?_
  refine WL.move rfl ?_
  refine WL.geq rfl rfl ?_
  refine WL.move rfl ?_
  by_cases hg19 : 161 ≤ c_
  · refine WL.gtake rfl rfl (decide_eq_true hg19) ?_
    refine WL.move rfl ?_
    refine WL.gtake rfl rfl (decide_eq_true hg19) ?_
    refine WL.leq rfl rfl ?_
    refine WL.pickT (congrArg (fun b => some (Value.bool b)) (decide_eq_true hg19)) rfl ?_
    refine WL.nil ?_
    refine CW.condP rfl (fun hc20 => ?_) (fun hc20 => ?_)
    · refine CW.seq ?_
      refine CW.region ?_
      refine WL.move rfl ?_
      refine WL.move rfl ?_
      refine WL.sub_ rfl rfl (by omega) ?_
      have hlt21 : (c_ - 161).toNat < lowL.length := by (first | (show _ < 56; omega) | (show _ < 16; omega))
      obtain ⟨ad22, cs23, hA24, hs25, hat26, hR27⟩ := SlD.get (hD6.up u16) (List.getElem?_eq_getElem hlt21)
      rw [show _ = _ from hR27.1] at hat26
      have hhR27 := hR27.2; simp only [I64] at hhR27
      refine WL.idx es29 rfl rfl hA24 (by omega) (by omega) ?_
      refine WL.load sc3 rfl (hat26.cell 0 _ rfl) ?_
      refine WL.assign rfl ?_
      refine WL.assign rfl ?_
      refine WL.nil ?_
      refine CW.ret ?_
      refine Ret.two rfl rfl rfl ?_
      have hl_ := low_eq (c_ - 161).toNat (by omega)
      have hz : placeO c_ = some lowL[(c_ - 161).toNat] := by
        unfold placeO
        rw [if_pos (by omega), if_pos (by omega), ← hl_.1]
      rw [hz]
      exact ⟨rfl, e17⟩
    · refine CW.skip ?_
      refine CW.seq ?_
      refine CW.seq ?_
      refine CW.region ?_
      refine WL.move rfl ?_
      refine WL.geq rfl rfl ?_
      refine WL.move rfl ?_
      by_cases hg28 : 218 ≤ c_
      · refine WL.gtake rfl rfl (decide_eq_true hg28) ?_
        refine WL.move rfl ?_
        refine WL.gtake rfl rfl (decide_eq_true hg28) ?_
        refine WL.leq rfl rfl ?_
        refine WL.pickT (congrArg (fun b => some (Value.bool b)) (decide_eq_true hg28)) rfl ?_
        refine WL.nil ?_
        refine CW.condP rfl (fun hc29 => ?_) (fun hc29 => ?_)
        · refine CW.seq ?_
          refine CW.region ?_
          refine WL.move rfl ?_
          refine WL.move rfl ?_
          refine WL.sub_ rfl rfl (by omega) ?_
          have hlt30 : (c_ - 218).toNat < highL.length := by (first | (show _ < 56; omega) | (show _ < 16; omega))
          obtain ⟨ad31, cs32, hA33, hs34, hat35, hR36⟩ := SlD.get hD15 (List.getElem?_eq_getElem hlt30)
          rw [show _ = _ from hR36.1] at hat35
          have hhR36 := hR36.2; simp only [I64] at hhR36
          refine WL.idx es29 rfl rfl hA33 (by omega) (by omega) ?_
          refine WL.load sc3 rfl (hat35.cell 0 _ rfl) ?_
          refine WL.assign rfl ?_
          refine WL.assign rfl ?_
          refine WL.nil ?_
          refine CW.ret ?_
          refine Ret.two rfl rfl rfl ?_
          have hl_ := high_eq (c_ - 218).toNat (by omega)
          have hci : (c_ - 161).toNat = 57 + (c_ - 218).toNat := by omega
          have hz : placeO c_ = some highL[(c_ - 218).toNat] := by
            unfold placeO
            rw [if_pos (by omega), hci, if_pos (by omega), ← hl_.1]
          rw [hz]
          exact ⟨rfl, e17⟩
        · refine CW.skip ?_
          refine CW.seq ?_
          refine CW.seq ?_
          refine CW.region ?_
          refine WL.move rfl ?_
          refine WL.geq rfl rfl ?_
          refine WL.move rfl ?_
          by_cases hg37 : 241 ≤ c_
          · refine WL.gtake rfl rfl (decide_eq_true hg37) ?_
            refine WL.move rfl ?_
            refine WL.gtake rfl rfl (decide_eq_true hg37) ?_
            refine WL.leq rfl rfl ?_
            refine WL.pickT (congrArg (fun b => some (Value.bool b)) (decide_eq_true hg37)) rfl ?_
            refine WL.nil ?_
            refine CW.condP rfl (fun hc38 => ?_) (fun hc38 => ?_)
            · refine CW.seq ?_
              refine CW.region ?_
              refine WL.move rfl ?_
              refine WL.sub_ rfl rfl (by omega) ?_
              refine WL.add rfl rfl (by omega) ?_
              refine WL.assign rfl ?_
              refine WL.assign rfl ?_
              refine WL.nil ?_
              refine CW.ret ?_
              refine Ret.two rfl rfl rfl ?_
              have hz : placeO c_ = some (c_ - 241 + 102) := by
                unfold placeO
                rw [if_neg (by omega), if_pos (by omega)]; congr 1; omega
              rw [hz]
              exact ⟨rfl, e17⟩
            · refine CW.skip ?_
              refine CW.seq ?_
              refine CW.region ?_
              refine WL.assign rfl ?_
              refine WL.assign rfl ?_
              refine WL.nil ?_
              refine CW.ret ?_
              refine Ret.two rfl rfl rfl ?_
              have hz : placeO c_ = none := by
                unfold placeO
                by_cases h217 : c_ = 217
                · subst h217; rfl
                · by_cases h234 : c_ = 234
                  · subst h234; rfl
                  · rw [if_neg (by omega), if_neg (by omega)]
              rw [hz]
              exact ⟨rfl, e17⟩
          · refine WL.gskip rfl rfl (decide_eq_false hg37) ?_
            refine WL.gskip rfl rfl (decide_eq_false hg37) ?_
            refine WL.pickF (congrArg (fun b => some (Value.bool b)) (decide_eq_false hg37)) rfl ?_
            refine WL.nil ?_
            refine CW.condF rfl ?_
            refine CW.skip ?_
            refine CW.seq ?_
            refine CW.region ?_
            refine WL.assign rfl ?_
            refine WL.assign rfl ?_
            refine WL.nil ?_
            refine CW.ret ?_
            refine Ret.two rfl rfl rfl ?_
            have hz : placeO c_ = none := by
              unfold placeO
              by_cases h217 : c_ = 217
              · subst h217; rfl
              · by_cases h234 : c_ = 234
                · subst h234; rfl
                · rw [if_neg (by omega), if_neg (by omega)]
            rw [hz]
            exact ⟨rfl, e17⟩
      · refine WL.gskip rfl rfl (decide_eq_false hg28) ?_
        refine WL.gskip rfl rfl (decide_eq_false hg28) ?_
        refine WL.pickF (congrArg (fun b => some (Value.bool b)) (decide_eq_false hg28)) rfl ?_
        refine WL.nil ?_
        refine CW.condF rfl ?_
        refine CW.skip ?_
        refine CW.seq ?_
        refine CW.seq ?_
        refine CW.region ?_
        refine WL.move rfl ?_
        refine WL.geq rfl rfl ?_
        refine WL.move rfl ?_
        by_cases hg39 : 241 ≤ c_
        · refine WL.gtake rfl rfl (decide_eq_true hg39) ?_
          refine WL.move rfl ?_
          refine WL.gtake rfl rfl (decide_eq_true hg39) ?_
          refine WL.leq rfl rfl ?_
          refine WL.pickT (congrArg (fun b => some (Value.bool b)) (decide_eq_true hg39)) rfl ?_
          refine WL.nil ?_
          refine CW.condP rfl (fun hc40 => ?_) (fun hc40 => ?_)
          · refine CW.seq ?_
            refine CW.region ?_
            refine WL.move rfl ?_
            refine WL.sub_ rfl rfl (by omega) ?_
            refine WL.add rfl rfl (by omega) ?_
            refine WL.assign rfl ?_
            refine WL.assign rfl ?_
            refine WL.nil ?_
            refine CW.ret ?_
            refine Ret.two rfl rfl rfl ?_
            have hz : placeO c_ = some (c_ - 241 + 102) := by
              unfold placeO
              rw [if_neg (by omega), if_pos (by omega)]; congr 1; omega
            rw [hz]
            exact ⟨rfl, e17⟩
          · refine CW.skip ?_
            refine CW.seq ?_
            refine CW.region ?_
            refine WL.assign rfl ?_
            refine WL.assign rfl ?_
            refine WL.nil ?_
            refine CW.ret ?_
            refine Ret.two rfl rfl rfl ?_
            have hz : placeO c_ = none := by
              unfold placeO
              by_cases h217 : c_ = 217
              · subst h217; rfl
              · by_cases h234 : c_ = 234
                · subst h234; rfl
                · rw [if_neg (by omega), if_neg (by omega)]
            rw [hz]
            exact ⟨rfl, e17⟩
        · refine WL.gskip rfl rfl (decide_eq_false hg39) ?_
          refine WL.gskip rfl rfl (decide_eq_false hg39) ?_
          refine WL.pickF (congrArg (fun b => some (Value.bool b)) (decide_eq_false hg39)) rfl ?_
          refine WL.nil ?_
          refine CW.condF rfl ?_
          refine CW.skip ?_
          refine CW.seq ?_
          refine CW.region ?_
          refine WL.assign rfl ?_
          refine WL.assign rfl ?_
          refine WL.nil ?_
          refine CW.ret ?_
          refine Ret.two rfl rfl rfl ?_
          have hz : placeO c_ = none := by
            unfold placeO
            by_cases h217 : c_ = 217
            · subst h217; rfl
            · by_cases h234 : c_ = 234
              · subst h234; rfl
              · rw [if_neg (by omega), if_neg (by omega)]
          rw [hz]
          exact ⟨rfl, e17⟩
  · refine WL.gskip rfl rfl (decide_eq_false hg19) ?_
    refine WL.gskip rfl rfl (decide_eq_false hg19) ?_
    refine WL.pickF (congrArg (fun b => some (Value.bool b)) (decide_eq_false hg19)) rfl ?_
    refine WL.nil ?_
    refine CW.condF rfl ?_
    refine CW.skip ?_
    refine CW.seq ?_
    refine CW.seq ?_
    refine CW.region ?_
    refine WL.move rfl ?_
    refine WL.geq rfl rfl ?_
    refine WL.move rfl ?_
    by_cases hg41 : 218 ≤ c_
    · refine WL.gtake rfl rfl (decide_eq_true hg41) ?_
      refine WL.move rfl ?_
      refine WL.gtake rfl rfl (decide_eq_true hg41) ?_
      refine WL.leq rfl rfl ?_
      refine WL.pickT (congrArg (fun b => some (Value.bool b)) (decide_eq_true hg41)) rfl ?_
      refine WL.nil ?_
      refine CW.condP rfl (fun hc42 => ?_) (fun hc42 => ?_)
      · refine CW.seq ?_
        refine CW.region ?_
        refine WL.move rfl ?_
        refine WL.move rfl ?_
        refine WL.sub_ rfl rfl (by omega) ?_
        have hlt43 : (c_ - 218).toNat < highL.length := by (first | (show _ < 56; omega) | (show _ < 16; omega))
        obtain ⟨ad44, cs45, hA46, hs47, hat48, hR49⟩ := SlD.get hD15 (List.getElem?_eq_getElem hlt43)
        rw [show _ = _ from hR49.1] at hat48
        have hhR49 := hR49.2; simp only [I64] at hhR49
        refine WL.idx es29 rfl rfl hA46 (by omega) (by omega) ?_
        refine WL.load sc3 rfl (hat48.cell 0 _ rfl) ?_
        refine WL.assign rfl ?_
        refine WL.assign rfl ?_
        refine WL.nil ?_
        refine CW.ret ?_
        refine Ret.two rfl rfl rfl ?_
        have hl_ := high_eq (c_ - 218).toNat (by omega)
        have hci : (c_ - 161).toNat = 57 + (c_ - 218).toNat := by omega
        have hz : placeO c_ = some highL[(c_ - 218).toNat] := by
          unfold placeO
          rw [if_pos (by omega), hci, if_pos (by omega), ← hl_.1]
        rw [hz]
        exact ⟨rfl, e17⟩
      · refine CW.skip ?_
        refine CW.seq ?_
        refine CW.seq ?_
        refine CW.region ?_
        refine WL.move rfl ?_
        refine WL.geq rfl rfl ?_
        refine WL.move rfl ?_
        by_cases hg50 : 241 ≤ c_
        · refine WL.gtake rfl rfl (decide_eq_true hg50) ?_
          refine WL.move rfl ?_
          refine WL.gtake rfl rfl (decide_eq_true hg50) ?_
          refine WL.leq rfl rfl ?_
          refine WL.pickT (congrArg (fun b => some (Value.bool b)) (decide_eq_true hg50)) rfl ?_
          refine WL.nil ?_
          refine CW.condP rfl (fun hc51 => ?_) (fun hc51 => ?_)
          · refine CW.seq ?_
            refine CW.region ?_
            refine WL.move rfl ?_
            refine WL.sub_ rfl rfl (by omega) ?_
            refine WL.add rfl rfl (by omega) ?_
            refine WL.assign rfl ?_
            refine WL.assign rfl ?_
            refine WL.nil ?_
            refine CW.ret ?_
            refine Ret.two rfl rfl rfl ?_
            have hz : placeO c_ = some (c_ - 241 + 102) := by
              unfold placeO
              rw [if_neg (by omega), if_pos (by omega)]; congr 1; omega
            rw [hz]
            exact ⟨rfl, e17⟩
          · refine CW.skip ?_
            refine CW.seq ?_
            refine CW.region ?_
            refine WL.assign rfl ?_
            refine WL.assign rfl ?_
            refine WL.nil ?_
            refine CW.ret ?_
            refine Ret.two rfl rfl rfl ?_
            have hz : placeO c_ = none := by
              unfold placeO
              by_cases h217 : c_ = 217
              · subst h217; rfl
              · by_cases h234 : c_ = 234
                · subst h234; rfl
                · rw [if_neg (by omega), if_neg (by omega)]
            rw [hz]
            exact ⟨rfl, e17⟩
        · refine WL.gskip rfl rfl (decide_eq_false hg50) ?_
          refine WL.gskip rfl rfl (decide_eq_false hg50) ?_
          refine WL.pickF (congrArg (fun b => some (Value.bool b)) (decide_eq_false hg50)) rfl ?_
          refine WL.nil ?_
          refine CW.condF rfl ?_
          refine CW.skip ?_
          refine CW.seq ?_
          refine CW.region ?_
          refine WL.assign rfl ?_
          refine WL.assign rfl ?_
          refine WL.nil ?_
          refine CW.ret ?_
          refine Ret.two rfl rfl rfl ?_
          have hz : placeO c_ = none := by
            unfold placeO
            by_cases h217 : c_ = 217
            · subst h217; rfl
            · by_cases h234 : c_ = 234
              · subst h234; rfl
              · rw [if_neg (by omega), if_neg (by omega)]
          rw [hz]
          exact ⟨rfl, e17⟩
    · refine WL.gskip rfl rfl (decide_eq_false hg41) ?_
      refine WL.gskip rfl rfl (decide_eq_false hg41) ?_
      refine WL.pickF (congrArg (fun b => some (Value.bool b)) (decide_eq_false hg41)) rfl ?_
      refine WL.nil ?_
      refine CW.condF rfl ?_
      refine CW.skip ?_
      refine CW.seq ?_
      refine CW.seq ?_
      refine CW.region ?_
      refine WL.move rfl ?_
      refine WL.geq rfl rfl ?_
      refine WL.move rfl ?_
      by_cases hg52 : 241 ≤ c_
      · refine WL.gtake rfl rfl (decide_eq_true hg52) ?_
        refine WL.move rfl ?_
        refine WL.gtake rfl rfl (decide_eq_true hg52) ?_
        refine WL.leq rfl rfl ?_
        refine WL.pickT (congrArg (fun b => some (Value.bool b)) (decide_eq_true hg52)) rfl ?_
        refine WL.nil ?_
        refine CW.condP rfl (fun hc53 => ?_) (fun hc53 => ?_)
        · refine CW.seq ?_
          refine CW.region ?_
          refine WL.move rfl ?_
          refine WL.sub_ rfl rfl (by omega) ?_
          refine WL.add rfl rfl (by omega) ?_
          refine WL.assign rfl ?_
          refine WL.assign rfl ?_
          refine WL.nil ?_
          refine CW.ret ?_
          refine Ret.two rfl rfl rfl ?_
          have hz : placeO c_ = some (c_ - 241 + 102) := by
            unfold placeO
            rw [if_neg (by omega), if_pos (by omega)]; congr 1; omega
          rw [hz]
          exact ⟨rfl, e17⟩
        · refine CW.skip ?_
          refine CW.seq ?_
          refine CW.region ?_
          refine WL.assign rfl ?_
          refine WL.assign rfl ?_
          refine WL.nil ?_
          refine CW.ret ?_
          refine Ret.two rfl rfl rfl ?_
          have hz : placeO c_ = none := by
            unfold placeO
            by_cases h217 : c_ = 217
            · subst h217; rfl
            · by_cases h234 : c_ = 234
              · subst h234; rfl
              · rw [if_neg (by omega), if_neg (by omega)]
          rw [hz]
          exact ⟨rfl, e17⟩
      · refine WL.gskip rfl rfl (decide_eq_false hg52) ?_
        refine WL.gskip rfl rfl (decide_eq_false hg52) ?_
        refine WL.pickF (congrArg (fun b => some (Value.bool b)) (decide_eq_false hg52)) rfl ?_
        refine WL.nil ?_
        refine CW.condF rfl ?_
        refine CW.skip ?_
        refine CW.seq ?_
        refine CW.region ?_
        refine WL.assign rfl ?_
        refine WL.assign rfl ?_
        refine WL.nil ?_
        refine CW.ret ?_
        refine Ret.two rfl rfl rfl ?_
        have hz : placeO c_ = none := by
          unfold placeO
          by_cases h217 : c_ = 217
          · subst h217; rfl
          · by_cases h234 : c_ = 234
            · subst h234; rfl
            · rw [if_neg (by omega), if_neg (by omega)]
        rw [hz]
        exact ⟨rfl, e17⟩

theorem add_spec (w : World) (M : MS) (hm : MB w M) {S : MS} {g : Nat} {xs : List PRule} (hV : RulesVar w M S g xs) {Ap1 : Option Addr} {cp1 : Nat} {us : List Int} (h1 : SlD IntR 1 w M Ap1 cp1 us) {Ap2 : Option Addr} {cp2 : Nat} {os : List Int} (h2 : SlD IntR 1 w M Ap2 cp2 os) (hx : xs.length ≤ 1000) :
    Fc Try.prog 98 #[.slice Ap1 us.length cp1, .slice Ap2 os.length cp2, .pointer (some ⟨g, 0, none⟩)] w fun v w' => ∃ M' S', RulesVar w' M' S' g (xs ++ [⟨us, os⟩]) ∧ Up w M w' M' ∧ Ms M M' ∧ Stp w w' S ∧ Wr w.heap.size S S' := by
  have e0 := Stp.refl w (S : MS)
  have hs00 : Ms M M := fun _ h => h
  obtain ⟨A, c, hS, hb, hSg, hO, hSo⟩ := hV
  have hlim := h1.lim
  have hlim2 := h2.lim
  have hmm : Ms (vb g) M := Ms.one (hS _ hSg)
  have hwm : Wr w.heap.size S (vb g) := fun q_ hq_ => .inl (by rw [hq_]; exact hSg)
  have hwo : Wr w.heap.size S (ob (.slice A xs.length c)) := fun q_ hq_ => .inl (hSo q_ hq_)
  have hdj : Dj (ob (.slice A xs.length c)) (vb g) := fun q_ hq_ h => Own.apartBk hO hb (by decide) (h ▸ hq_)
  have hwl := Own.len hO
  refine Fc.enter (n := 11) [(0, .slice Ap1 us.length cp1), (1, .slice Ap2 os.length cp2), (2, .pointer (some ⟨g, 0, none⟩))] Try.func98 rfl rfl (Nat.le_of_ble_eq_true rfl) (.cons rfl (.cons rfl (.cons rfl (.nil _)))) ?_
  refine CW.region ?_
  refine WL.load sc49 rfl ((Bk.at_ (M := fun _ => False) hb (fun h => h)).cell 0 _ rfl) ?_
  refine WL.move rfl ?_
  refine WL.move rfl ?_
  refine WL.buildP (cs := #[.slice Ap1 us.length cp1, .slice Ap2 os.length cp2]) (.cons rfl (.cons rfl (.nil))) (by kernel_rfl) ?_
  refine WL.bslice1 (R := RuleR) (y' := (⟨us, os⟩ : PRule)) Try.underlying49 ti100 rfl (by decide) (by decide) rfl ⟨_, _, rfl, (SlD.sl h1), (SlD.sl h2)⟩ rfl hm (fun v1 w2 hS3 he4 => ?_)
  obtain ⟨A5, c6, rfl, hD7⟩ := hS3
  have u8 := Ext.up he4 hm
  have e9 := Stp.ext e0 he4
  have hm10 := Up.mb u8
  have h20 := Own.ext hO he4 u8 (fun _ h => h)
  have mem21 : Ms (ob (.slice A xs.length c)) M := (Own.ms hO)
  refine WL.appendR Try.underlying49 ti100 rfl (by decide) rfl rfl h20 (Sl.atl (SlD.sl hD7)) hm10 (by decide) (by first | omega | (simp; omega)) (fun A11 c12 w13 M14 hO15 hs16 u17 hsub18 hnew19 => ?_)
  have e22 := Stp.wr e9 hs16 hwo
  have hm23 := Up.mb u17
  have hs024 : Ms M M14 := fun k h => hsub18 k (hs00 k h)
  have dj25 := Dj.grow (Dj.symm (Dj.symm hdj)) hnew19 hmm hm10
  have wr26 := Wr.grow hwo hnew19 (Stp.size e9)
  have h31 := Bk.ext hb he4
  have h32 := Bk.stp h31 hs16 ((Dj.symm hdj) _ rfl)
  have mem33 : Ms (vb g) M14 := (fun k h => hsub18 k (hmm k h))
  refine WL.store (o := 0) (by rw [ti49]; rfl) rfl rfl rfl h32 (Nat.le_of_ble_eq_true rfl) (fun w27 hb34 hs29 => ?_)
  have hb28 : Bk w27 g 49 [.slice A11 ((xs ++ [(⟨us, os⟩ : PRule)]).length) c12] := hb34
  have u30 := Stp.upM hs29 hm23 mem33
  have e35 := Stp.wr e22 hs29 hwm
  have hm36 := Up.mb u30
  refine WL.nil ?_
  have mem37 : Ms (ob (.slice A11 (xs ++ [(⟨us, os⟩ : PRule)]).length c12)) M14 := (Own.ms hO15)
  have h38 := Own.step hO15 hs29 dj25 u30 mem37
  refine Ret.zero rfl ?_
  exact ⟨_, _, ⟨_, _, Ms.or mem33 mem37, hb28, .inl rfl, h38, fun _ h => .inr h⟩, (Up.trans u8 (Up.trans u17 u30)), hs024, e35, Wr.or hwm wr26⟩

theorem lawRules_spec (w : World) (M : MS) (hm : MB w M) :
    Fc Try.prog 83 #[] w fun v w' => ∃ M', NewR RuleR 2 100 w M w' M' v indR := by
  have e0 := Stp.refl w (NoM : MS)
  have hs00 : Ms M M := fun _ h => h
  refine Fc.enter (n := 99) [] Try.func83 rfl rfl (Nat.le_of_ble_eq_true rfl) (.nil _) ?_
  refine CW.seq ?_
  refine CW.region ?_
  refine WL.assign rfl ?_
  refine WL.nil ?_
  refine CW.seq ?_
  refine CW.region ?_
  refine WL.alloc (cs := [.slice none 0 0]) ti49 rfl (fun g1 w2 hg3 hb4 he5 => ?_)
  obtain ⟨M6, u7, mem8, hsub9, hinv10⟩ := Ext.addVar he5 hm hg3 hb4
  have ge11 : ∀ q_, vb g1 q_ → w.heap.size ≤ q_ := fun q_ hq_ => by rw [hq_]; exact hg3
  have mem12 := Ms.one mem8
  have e13 := Stp.ext e0 he5
  have hm14 := Up.mb u7
  have hs015 : Ms M M6 := fun k h => hsub9 k (hs00 k h)
  have fr16 := Ge.le ge11 (Stp.size e0)
  have hO17 : Own RuleR 2 100 w2 M6 0 (.slice none 0 0) [] := Own.nil
  have dj18 : Dj (ob (.slice none 0 0)) (vb g1) := Dj.nil _
  have hpk19 : RulesVar w2 M6 (fun k => vb g1 k ∨ ob (.slice none 0 0) k) g1 [] := ⟨none, 0, Ms.or mem12 (Ms.nil M6), hb4, .inl rfl, hO17, fun _ h => .inr h⟩
  refine WL.nil ?_
  refine CW.seq ?_
  refine CW.region ?_
  refine WL.makeFunc (.cons rfl (.nil)) ?_
  refine WL.assign rfl ?_
  refine WL.nil ?_
  refine CW.seq ?_
  refine CW.seq ?_
  refine CW.region ?_
  refine WL.assign rfl ?_
  refine WL.nil ?_
  refine CW.block ?_
  refine CW.loop (fun m σ wr0 => ∃ c : Int, ∃ Sg : MS, ∃ Mr20 : MS, m = (128 - c).toNat ∧ σ = [(1, .pointer (some ⟨g1, 0, none⟩)), (2, .func (.func 98) #[] #[.pointer (some ⟨g1, 0, none⟩)]), (3, .int .i64 c)] ∧ (Up w2 M6 wr0 Mr20) ∧ (Stp w wr0 NoM) ∧ (Ms M6 Mr20) ∧ (Ms M Mr20) ∧ (RulesVar wr0 Mr20 Sg g1 (indA c.toNat)) ∧ (Ms (Sg) Mr20) ∧ (∀ q_, (Sg) q_ → w.heap.size ≤ q_) ∧ (0 ≤ c) ∧ (c ≤ 128)) _ _ (.cons (t := 1) rfl (.cons (t := 2) rfl (.cons (t := 3) rfl (.nil _)))) ⟨0, (fun k => vb g1 k ∨ ob (.slice none 0 0) k), M6, rfl, rfl, Up.refl hm14, e13, fun _ h => h, hs015, hpk19, (Ms.or mem12 (Ms.nil M6)), (Fr.or fr16 (Fr.nil w.heap.size)), by omega, by omega⟩ ?_
  rintro m _ wr0 ⟨c, Sg, Mr20, rfl, rfl, hU21, hE22, hsp24, hsb25, h26, mem27, wr28, hc0, hc1⟩
  have hm23 := Up.mb hU21
  have hal : (indA c.toNat).length = c.toNat := by simp [indA]
  refine CW.seq ?_
  refine CW.seq ?_
  refine CW.region ?_
  refine WL.move rfl ?_
  refine WL.lss rfl rfl ?_
  refine WL.nil ?_
  refine CW.condP rfl (fun hc29 => ?_) (fun hc29 => ?_)
  · refine CW.skip ?_
    refine CW.seq ?_
    refine CW.block ?_
    refine CW.region ?_
    refine WL.move rfl ?_
    refine WL.move rfl ?_
    refine WL.bslice1 (R := IntR) (y' := c) Try.underlying29 ti3 rfl (by decide) (by decide) rfl ⟨rfl, by omega⟩ rfl hm23 (fun v30 w31 hS32 he33 => ?_)
    obtain ⟨A34, c35, rfl, hD36⟩ := hS32
    have u37 := Ext.up he33 hm23
    have e38 := Stp.ext hE22 he33
    have hm39 := Up.mb u37
    refine WL.move rfl ?_
    refine WL.add rfl rfl (by omega) ?_
    refine WL.bslice1 (R := IntR) (y' := 8192 + c) Try.underlying29 ti3 rfl (by decide) (by decide) rfl ⟨rfl, by omega⟩ rfl hm39 (fun v40 w41 hS42 he43 => ?_)
    obtain ⟨A44, c45, rfl, hD46⟩ := hS42
    have u47 := Ext.up he43 hm39
    have e48 := Stp.ext e38 he43
    have hm49 := Up.mb u47
    have h50 := RulesVar.step h26 he33 (fun _ _ h => h) u37 mem27
    have h51 := RulesVar.step h50 he43 (fun _ _ h => h) u47 mem27
    refine WL.callv rfl Try.func98 rfl rfl (.cons rfl (.cons rfl (.nil))) (add_spec _ _ hm49 h51 (hD36.up u47) hD46 (by (first | omega | (simp only [List.length_append, List.length_cons, List.length_nil]; omega)))) (fun _ w52 hr53 => ?_)
    obtain ⟨M54, S55, hV56, hu57, hms58, hst59, hwr60⟩ := hr53
    have e62 := Stp.wr e48 hst59 (Wr.ofFr NoM wr28)
    have hm63 := Up.mb hu57
    have hs064 : Ms M M54 := fun k h => hms58 k (hsb25 k h)
    have hs065 : Ms M6 M54 := fun k h => hms58 k (hsp24 k h)
    have hV61 : RulesVar w52 M54 S55 g1 ((indA c.toNat) ++ [(⟨[c], [8192 + c]⟩ : PRule)]) := hV56
    have fr67 := Ge.grow wr28 hwr60 (Stp.size e48)
    refine WL.nil ?_
    refine CW.region ?_
    refine WL.move rfl ?_
    refine WL.add rfl rfl (by omega) ?_
    refine WL.assign rfl ?_
    refine WL.nil ?_
    refine Loop.again _ _ ?_ ?_ ⟨c + 1, S55, M54, rfl, rfl, (Up.trans hU21 (Up.trans u37 (Up.trans u47 hu57))), e62, hs065, hs064, RulesVar.eq hV61 (by rw [show (c + 1).toNat = c.toNat + 1 by omega, indA_succ, show ((c.toNat : Nat) : Int) = c by omega]), (RulesVar.ms hV61), fr67, by omega, by omega⟩
    · omega
    · exact .cons (t := 1) rfl (.cons (t := 2) rfl (.cons (t := 3) rfl (.nil _)))
  · have hka : c.toNat = 128 := by omega
    refine CW.exit ?_
    refine CW.seq ?_
    refine CW.seq ?_
    refine CW.region ?_
    refine WL.assign rfl ?_
    refine WL.nil ?_
    refine CW.block ?_
    refine CW.loop (fun m σ wr1 => ∃ c : Int, ∃ Sg : MS, ∃ Mr68 : MS, m = (256 - c).toNat ∧ σ = [(1, .pointer (some ⟨g1, 0, none⟩)), (2, .func (.func 98) #[] #[.pointer (some ⟨g1, 0, none⟩)]), (4, .int .i64 c)] ∧ (Up wr0 Mr20 wr1 Mr68) ∧ (Stp w wr1 NoM) ∧ (Ms Mr20 Mr68) ∧ (Ms M Mr68) ∧ (RulesVar wr1 Mr68 Sg g1 (indA 128 ++ indB (c - 161).toNat)) ∧ (Ms (Sg) Mr68) ∧ (∀ q_, (Sg) q_ → w.heap.size ≤ q_) ∧ (161 ≤ c) ∧ (c ≤ 256)) _ _ (.cons (t := 1) rfl (.cons (t := 2) rfl (.cons (t := 4) rfl (.nil _)))) ⟨161, Sg, Mr20, rfl, rfl, Up.refl hm23, hE22, fun _ h => h, hsb25, RulesVar.eq h26 (by rw [hka]; simp [indB]), mem27, wr28, by omega, by omega⟩ ?_
    rintro m _ wr1 ⟨c, Sg, Mr68, rfl, rfl, hU69, hE70, hsp72, hsb73, h74, mem75, wr76, hc0, hc1⟩
    have hm71 := Up.mb hU69
    have hs077 : Ms M6 Mr68 := fun k h => hsp72 k (hsp24 k h)
    have hal2 : (indA 128).length = 128 := by simp [indA]
    have hbl := indB_len (c - 161).toNat
    refine CW.seq ?_
    refine CW.seq ?_
    refine CW.region ?_
    refine WL.move rfl ?_
    refine WL.lss rfl rfl ?_
    refine WL.nil ?_
    refine CW.condP rfl (fun hc78 => ?_) (fun hc78 => ?_)
    · refine CW.skip ?_
      refine CW.seq ?_
      refine CW.block ?_
      refine CW.seq ?_
      refine CW.region ?_
      refine WL.move rfl ?_
      refine WL.convert (by rw [Try.underlying3]; rfl) Try.underlying5 rfl (wrapU8 (by omega) (by omega)) ?_
      refine WL.call Try.func99 rfl rfl (.cons rfl .nil) (lawPlace_spec _ _ hm71 (c_ := c) (by omega) (by omega)) (fun _ w79 hr80 => ?_)
      obtain ⟨rfl, he81⟩ := hr80
      have u82 := Ext.up he81 hm71
      have e83 := Stp.ext hE70 he81
      have hm84 := Up.mb u82
      cases hpo : placeO c with
      | none =>
        show WL _ _ _ _ _ ((_, .tuple #[.int .i64 0, .bool false]) :: _) _
        refine WL.move rfl ?_
        refine WL.extract rfl rfl ?_
        refine WL.extract rfl rfl ?_
        refine WL.assign rfl ?_
        refine WL.assign rfl ?_
        refine WL.nil ?_
        refine CW.seq ?_
        refine CW.region ?_
        refine WL.move rfl ?_
        refine WL.nil ?_
        refine CW.condF rfl ?_
        refine CW.skip ?_
        refine CW.region ?_
        refine WL.move rfl ?_
        refine WL.add rfl rfl (by omega) ?_
        refine WL.assign rfl ?_
        refine WL.nil ?_
        have hcs : (c + 1 - 161).toNat = (c - 161).toNat + 1 := by omega
        have hce : 161 + ((c - 161).toNat : Int) = c := by omega
        have h85 := RulesVar.step h74 he81 (fun _ _ h => h) u82 mem75
        refine Loop.again _ _ ?_ ?_ ⟨c + 1, Sg, Mr68, rfl, rfl, (Up.trans hU69 u82), e83, hsp72, hsb73, RulesVar.eq h85 (by rw [hcs, indB_succ, hce, hpo]; simp), mem75, wr76, by omega, by omega⟩
        · omega
        · exact .cons (t := 1) rfl (.cons (t := 2) rfl (.cons (t := 4) rfl (.nil _)))
      | some n_ =>
        have hnr := place_range hpo
        show WL _ _ _ _ _ ((_, .tuple #[.int .i64 n_, .bool true]) :: _) _
        refine WL.move rfl ?_
        refine WL.extract rfl rfl ?_
        refine WL.extract rfl rfl ?_
        refine WL.assign rfl ?_
        refine WL.assign rfl ?_
        refine WL.nil ?_
        refine CW.seq ?_
        refine CW.region ?_
        refine WL.move rfl ?_
        refine WL.nil ?_
        refine CW.condT rfl ?_
        refine CW.region ?_
        refine WL.move rfl ?_
        refine WL.move rfl ?_
        refine WL.bslice1 (R := IntR) (y' := c) Try.underlying29 ti3 rfl (by decide) (by decide) rfl ⟨rfl, by omega⟩ rfl hm84 (fun v86 w87 hS88 he89 => ?_)
        obtain ⟨A90, c91, rfl, hD92⟩ := hS88
        have u93 := Ext.up he89 hm84
        have e94 := Stp.ext e83 he89
        have hm95 := Up.mb u93
        refine WL.move rfl ?_
        refine WL.bslice1 (R := IntR) (y' := n_) Try.underlying29 ti3 rfl (by decide) (by decide) rfl ⟨rfl, by omega⟩ rfl hm95 (fun v96 w97 hS98 he99 => ?_)
        obtain ⟨A100, c101, rfl, hD102⟩ := hS98
        have u103 := Ext.up he99 hm95
        have e104 := Stp.ext e94 he99
        have hm105 := Up.mb u103
        have h106 := RulesVar.step h74 he81 (fun _ _ h => h) u82 mem75
        have h107 := RulesVar.step h106 he89 (fun _ _ h => h) u93 mem75
        have h108 := RulesVar.step h107 he99 (fun _ _ h => h) u103 mem75
        refine WL.callv rfl Try.func98 rfl rfl (.cons rfl (.cons rfl (.nil))) (add_spec _ _ hm105 h108 (hD92.up u103) hD102 (by (first | omega | (simp only [List.length_append, List.length_cons, List.length_nil]; omega)))) (fun _ w109 hr110 => ?_)
        obtain ⟨M111, S112, hV113, hu114, hms115, hst116, hwr117⟩ := hr110
        have e119 := Stp.wr e104 hst116 (Wr.ofFr NoM wr76)
        have hm120 := Up.mb hu114
        have hs0121 : Ms M M111 := fun k h => hms115 k (hsb73 k h)
        have hs0122 : Ms M6 M111 := fun k h => hms115 k (hs077 k h)
        have hs0123 : Ms Mr20 M111 := fun k h => hms115 k (hsp72 k h)
        have hV118 : RulesVar w109 M111 S112 g1 ((indA 128 ++ indB (c - 161).toNat) ++ [(⟨[c], [n_]⟩ : PRule)]) := hV113
        have fr125 := Ge.grow wr76 hwr117 (Stp.size e104)
        refine WL.nil ?_
        refine CW.region ?_
        refine WL.move rfl ?_
        refine WL.add rfl rfl (by omega) ?_
        refine WL.assign rfl ?_
        refine WL.nil ?_
        have hcs : (c + 1 - 161).toNat = (c - 161).toNat + 1 := by omega
        have hce : 161 + ((c - 161).toNat : Int) = c := by omega
        refine Loop.again _ _ ?_ ?_ ⟨c + 1, S112, M111, rfl, rfl, (Up.trans hU69 (Up.trans u82 (Up.trans u93 (Up.trans u103 hu114)))), e119, hs0123, hs0121, RulesVar.eq hV118 (by rw [hcs, indB_succ, hce, hpo]; simp), (RulesVar.ms hV118), fr125, by omega, by omega⟩
        · omega
        · exact .cons (t := 1) rfl (.cons (t := 2) rfl (.cons (t := 4) rfl (.nil _)))
    · have hcb : indB (c - 161).toNat = indB 90 := by rw [show (c - 161).toNat = 95 by omega]; rfl
      refine CW.exit ?_
      refine CW.seq ?_
      refine CW.seq ?_
      refine CW.region ?_
      refine WL.call Try.func100 rfl rfl (.nil) (lawNukta_spec _ _ hm71) (fun _ w129 hr130 => ?_)
      obtain ⟨⟨A126, c127, rfl, hD128⟩, he131⟩ := hr130
      have u132 := Ext.up he131 hm71
      have e133 := Stp.ext hE70 he131
      have hm134 := Up.mb u132
      refine WL.len Try.underlying150 rfl ?_
      refine WL.move rfl ?_
      refine WL.nil ?_
      refine CW.block ?_
      have h142 := RulesVar.step h74 he131 (fun _ _ h => h) u132 mem75
      refine CW.loop (fun m σ wr2 => ∃ k2 : Nat, ∃ Sg : MS, ∃ Mr135 : MS, m = 14 - k2 ∧ σ = [(1, .pointer (some ⟨g1, 0, none⟩)), (2, .func (.func 98) #[] #[.pointer (some ⟨g1, 0, none⟩)]), (40, .slice A126 nuktaL.length c127), (41, .int .i64 (nuktaL.length : Int)), (42, .int .i64 (k2 : Int))] ∧ (Up w129 Mr68 wr2 Mr135) ∧ (Stp w wr2 NoM) ∧ (Ms Mr68 Mr135) ∧ (Ms M Mr135) ∧ (RulesVar wr2 Mr135 Sg g1 (indA 128 ++ indB 90 ++ indC k2)) ∧ (Ms (Sg) Mr135) ∧ (∀ q_, (Sg) q_ → w.heap.size ≤ q_) ∧ (k2 ≤ 14)) _ _ (.cons (t := 1) rfl (.cons (t := 2) rfl (.cons (t := 40) rfl (.cons (t := 41) rfl (.cons (t := 42) rfl (.nil _)))))) ⟨0, Sg, Mr68, rfl, rfl, Up.refl hm134, e133, fun _ h => h, hsb73, RulesVar.eq h142 (by rw [hcb]; simp [indC]), mem75, wr76, by omega⟩ ?_
      rintro m _ wr2 ⟨k2, Sg, Mr135, rfl, rfl, hU136, hE137, hsp139, hsb140, h141, mem143, wr144, hk2⟩
      have hm138 := Up.mb hU136
      have hs0145 : Ms M6 Mr135 := fun k h => hsp139 k (hs077 k h)
      have hs0146 : Ms Mr20 Mr135 := fun k h => hsp139 k (hsp72 k h)
      have hcl : (indC k2).length ≤ 14 := by simp [indC]; omega
      have hbl9 := indB_len 90
      have hnl : nuktaL.length = 14 := rfl
      refine CW.seq ?_
      refine CW.region ?_
      refine WL.lss rfl rfl ?_
      refine WL.nil ?_
      refine CW.seq ?_
      refine CW.condP rfl (fun hc147 => ?_) (fun hc147 => ?_)
      · have hk2l : k2 < nuktaL.length := by omega
        refine CW.skip ?_
        refine CW.seq ?_
        refine CW.block ?_
        refine CW.seq ?_
        refine CW.region ?_
        have hlt148 : k2 < nuktaL.length := by omega
        obtain ⟨ad149, cs150, hA151, hs152, hat153, hR154⟩ := SlD.get (hD128.up hU136) (List.getElem?_eq_getElem hlt148)
        rw [show _ = _ from hR154.1] at hat153
        have hhR154 := hR154.2; simp only [I64] at hhR154
        refine WL.idx es150 rfl rfl hA151 (by omega) (by omega) ?_
        refine WL.loadAgg (cs := [.int .i64 (nuktaL[k2].1), .int .i64 (nuktaL[k2].2)]) ag152 rfl hat153 ?_
        refine WL.alloc (cs := [.int .i64 0, .int .i64 0]) ti152 rfl (fun g155 w156 hg157 hb158 he159 => ?_)
        obtain ⟨M160, u161, mem162, hsub163, hinv164⟩ := Ext.addVar he159 hm138 hg157 hb158
        have ge165 : ∀ q_, vb g155 q_ → wr2.heap.size ≤ q_ := fun q_ hq_ => by rw [hq_]; exact hg157
        have mem166 := Ms.one mem162
        have e167 := Stp.ext hE137 he159
        have hm168 := Up.mb u161
        have hs0169 : Ms M M160 := fun k h => hsub163 k (hsb140 k h)
        have hs0170 : Ms M6 M160 := fun k h => hsub163 k (hs0145 k h)
        have hs0171 : Ms Mr20 M160 := fun k h => hsub163 k (hs0146 k h)
        have hs0172 : Ms Mr68 M160 := fun k h => hsub163 k (hsp139 k h)
        have dj173 := Dj.fresh (T := Sg) ge165 mem143 hm138
        have fr174 := Ge.le ge165 (Stp.size hE137)
        refine WL.storeAll (vs := [.int .i64 (nuktaL[k2].1), .int .i64 (nuktaL[k2].2)]) (by rw [ti152]; rfl) rfl rfl (by simp [Value.oneCell']) hb158 rfl (fun w175 hb176 hs177 => ?_)
        have u178 := Stp.upM hs177 hm168 mem166
        have e179 := Stp.wr e167 hs177 (Wr.ofFr NoM fr174)
        have hm180 := Up.mb u178
        refine WL.nil ?_
        refine CW.region ?_
        refine WL.move rfl ?_
        refine WL.rn (Rn.idxArr esa152 rfl rfl (by decide) (by decide)) ?_
        refine WL.load sc3 rfl ((Bk.at_ (M := fun _ => False) hb176 (fun h => h)).cell 0 _ rfl) ?_
        refine WL.bslice Try.underlying29 ti3 rfl (by decide) (by decide) (.cons rfl (.cons rfl (.nil))) rfl (by simp [Value.cells]) (fun g181 w182 hg183 hb184 he185 => ?_)
        have hD186 : SlD IntR 1 w182 M160 (some ⟨g181, 0, none⟩) 2 ([nuktaL[k2].1, 233] : List Int) := Bk.ints (xs := [nuktaL[k2].1, 233]) hb184 (by intro x_ hx_; simp only [List.mem_cons, List.not_mem_nil, or_false] at hx_; rcases hx_ with rfl | rfl <;> (simp only [I64]; omega)) (MB.fresh hm180 hg183) (Nat.le_of_ble_eq_true rfl)
        have u187 := Ext.up he185 hm180
        have e188 := Stp.ext e179 he185
        have hm189 := Up.mb u187
        refine WL.rn (Rn.idxArr esa152 rfl rfl (by decide) (by decide)) ?_
        have h190 := Bk.ext hb176 he185
        refine WL.load sc3 rfl ((Bk.at_ (M := fun _ => False) h190 (fun h => h)).cell 1 _ rfl) ?_
        refine WL.bslice1 (R := IntR) (y' := nuktaL[k2].2) Try.underlying29 ti3 rfl (by decide) (by decide) rfl ⟨rfl, by omega⟩ rfl hm189 (fun v191 w192 hS193 he194 => ?_)
        obtain ⟨A195, c196, rfl, hD197⟩ := hS193
        have u198 := Ext.up he194 hm189
        have e199 := Stp.ext e188 he194
        have hm200 := Up.mb u198
        have mem201 : Ms Sg M160 := (fun k h => hsub163 k (mem143 k h))
        have h202 := RulesVar.step h141 he159 (fun _ _ h => h) u161 mem201
        have h203 := RulesVar.step h202 hs177 (Dj.symm dj173) u178 mem201
        have h204 := RulesVar.step h203 he185 (fun _ _ h => h) u187 mem201
        have h205 := RulesVar.step h204 he194 (fun _ _ h => h) u198 mem201
        refine WL.callv rfl Try.func98 rfl rfl (.cons rfl (.cons rfl (.nil))) (add_spec _ _ hm200 h205 (hD186.up u198) hD197 (by (first | omega | (simp only [List.length_append, List.length_cons, List.length_nil]; omega)))) (fun _ w206 hr207 => ?_)
        obtain ⟨M208, S209, hV210, hu211, hms212, hst213, hwr214⟩ := hr207
        have e216 := Stp.wr e199 hst213 (Wr.ofFr NoM wr144)
        have hm217 := Up.mb hu211
        have hs0218 : Ms M M208 := fun k h => hms212 k (hs0169 k h)
        have hs0219 : Ms M6 M208 := fun k h => hms212 k (hs0170 k h)
        have hs0220 : Ms Mr20 M208 := fun k h => hms212 k (hs0171 k h)
        have hs0221 : Ms Mr68 M208 := fun k h => hms212 k (hs0172 k h)
        have hV215 : RulesVar w206 M208 S209 g1 ((indA 128 ++ indB 90 ++ indC k2) ++ [(⟨([nuktaL[k2].1, 233] : List Int), [nuktaL[k2].2]⟩ : PRule)]) := hV210
        have dj222 := Dj.grow (Dj.symm dj173) hwr214 mem166 hm200
        have fr224 := Ge.grow wr144 hwr214 (Stp.size e199)
        refine WL.nil ?_
        refine CW.region ?_
        refine WL.add rfl rfl (by omega) ?_
        refine WL.move rfl ?_
        refine WL.nil ?_
        refine Loop.again _ _ ?_ ?_ ⟨k2 + 1, S209, M208, rfl, rfl, (Up.trans hU136 (Up.trans u161 (Up.trans u178 (Up.trans u187 (Up.trans u198 hu211))))), e216, hs0221, hs0218, RulesVar.eq hV215 (by rw [indC_succ hk2l, ← List.append_assoc]), (RulesVar.ms hV215), fr224, by omega⟩
        · omega
        · exact .cons (t := 1) rfl (.cons (t := 2) rfl (.cons (t := 40) rfl (.cons (t := 41) rfl (.cons (t := 42) rfl (.nil _)))))
      · have hkc : k2 = 14 := by omega
        refine CW.exit ?_
        refine CW.seq ?_
        refine CW.seq ?_
        refine CW.region ?_
        refine WL.call Try.func45 rfl rfl (.nil) (codes_spec _ _ hm138) (fun _ w228 hr229 => ?_)
        obtain ⟨⟨A225, c226, rfl, hD227⟩, he230⟩ := hr229
        have u231 := Ext.up he230 hm138
        have e232 := Stp.ext hE137 he230
        have hm233 := Up.mb u231
        refine WL.len Try.underlying29 rfl ?_
        refine WL.move rfl ?_
        refine WL.nil ?_
        refine CW.block ?_
        have h241 := RulesVar.step h141 he230 (fun _ _ h => h) u231 mem143
        refine CW.loop (fun m σ wr3 => ∃ k : Nat, ∃ Sg : MS, ∃ Mr234 : MS, m = 9 - k ∧ σ = [(1, .pointer (some ⟨g1, 0, none⟩)), (2, .func (.func 98) #[] #[.pointer (some ⟨g1, 0, none⟩)]), (55, .slice A225 codesL.length c226), (56, .int .i64 (codesL.length : Int)), (57, .int .i64 (k : Int))] ∧ (Up w228 Mr135 wr3 Mr234) ∧ (Stp w wr3 NoM) ∧ (Ms Mr135 Mr234) ∧ (Ms M Mr234) ∧ (RulesVar wr3 Mr234 Sg g1 (indA 128 ++ indB 90 ++ indC 14 ++ indE k)) ∧ (Ms (Sg) Mr234) ∧ (∀ q_, (Sg) q_ → w.heap.size ≤ q_) ∧ (k ≤ 9)) _ _ (.cons (t := 1) rfl (.cons (t := 2) rfl (.cons (t := 55) rfl (.cons (t := 56) rfl (.cons (t := 57) rfl (.nil _)))))) ⟨0, Sg, Mr135, rfl, rfl, Up.refl hm233, e232, fun _ h => h, hsb140, RulesVar.eq h241 (by rw [hkc]; simp [indE]), mem143, wr144, by omega⟩ ?_
        rintro m _ wr3 ⟨k, Sg, Mr234, rfl, rfl, hU235, hE236, hsp238, hsb239, h240, mem242, wr243, hk3⟩
        have hm237 := Up.mb hU235
        have hs0244 : Ms M6 Mr234 := fun k h => hsp238 k (hs0145 k h)
        have hs0245 : Ms Mr20 Mr234 := fun k h => hsp238 k (hs0146 k h)
        have hs0246 : Ms Mr68 Mr234 := fun k h => hsp238 k (hsp139 k h)
        have hcl2 : (indC 14).length ≤ 14 := by simp [indC]; omega
        have hel : (indE k).length = k := by simp [indE]
        have hcdl : codesL.length = 9 := rfl
        refine CW.seq ?_
        refine CW.region ?_
        refine WL.lss rfl rfl ?_
        refine WL.nil ?_
        refine CW.seq ?_
        refine CW.condP rfl (fun hc247 => ?_) (fun hc247 => ?_)
        · have hkl : k < codesL.length := by omega
          refine CW.skip ?_
          refine CW.seq ?_
          refine CW.block ?_
          refine CW.seq ?_
          refine CW.region ?_
          refine WL.move rfl ?_
          have hlt248 : k < codesL.length := by omega
          obtain ⟨ad249, cs250, hA251, hs252, hat253, hR254⟩ := SlD.get (hD227.up hU235) (List.getElem?_eq_getElem hlt248)
          rw [show _ = _ from hR254.1] at hat253
          have hhR254 := hR254.2; simp only [I64] at hhR254
          refine WL.idx es29 rfl rfl hA251 (by omega) (by omega) ?_
          refine WL.load sc3 rfl (hat253.cell 0 _ rfl) ?_
          refine WL.assign rfl ?_
          refine WL.assign rfl ?_
          refine WL.nil ?_
          refine CW.region ?_
          refine WL.move rfl ?_
          refine WL.move rfl ?_
          refine WL.bslice Try.underlying29 ti3 rfl (by decide) (by decide) (.cons rfl (.cons rfl (.nil))) rfl (by simp [Value.cells]) (fun g255 w256 hg257 hb258 he259 => ?_)
          have hD260 : SlD IntR 1 w256 Mr234 (some ⟨g255, 0, none⟩) 2 ([239, codesL[k]] : List Int) := Bk.ints (xs := [239, codesL[k]]) hb258 (by intro x_ hx_; simp only [List.mem_cons, List.not_mem_nil, or_false] at hx_; rcases hx_ with rfl | rfl <;> (simp only [I64]; omega)) (MB.fresh hm237 hg257) (Nat.le_of_ble_eq_true rfl)
          have u261 := Ext.up he259 hm237
          have e262 := Stp.ext hE236 he259
          have hm263 := Up.mb u261
          refine WL.move rfl ?_
          refine WL.add rfl rfl (by omega) ?_
          refine WL.bslice1 (R := IntR) (y' := 4096 + (k : Int)) Try.underlying29 ti3 rfl (by decide) (by decide) rfl ⟨rfl, by omega⟩ rfl hm263 (fun v264 w265 hS266 he267 => ?_)
          obtain ⟨A268, c269, rfl, hD270⟩ := hS266
          have u271 := Ext.up he267 hm263
          have e272 := Stp.ext e262 he267
          have hm273 := Up.mb u271
          have h274 := RulesVar.step h240 he259 (fun _ _ h => h) u261 mem242
          have h275 := RulesVar.step h274 he267 (fun _ _ h => h) u271 mem242
          refine WL.callv rfl Try.func98 rfl rfl (.cons rfl (.cons rfl (.nil))) (add_spec _ _ hm273 h275 (hD260.up u271) hD270 (by (first | omega | (simp only [List.length_append, List.length_cons, List.length_nil]; omega)))) (fun _ w276 hr277 => ?_)
          obtain ⟨M278, S279, hV280, hu281, hms282, hst283, hwr284⟩ := hr277
          have e286 := Stp.wr e272 hst283 (Wr.ofFr NoM wr243)
          have hm287 := Up.mb hu281
          have hs0288 : Ms M M278 := fun k h => hms282 k (hsb239 k h)
          have hs0289 : Ms M6 M278 := fun k h => hms282 k (hs0244 k h)
          have hs0290 : Ms Mr20 M278 := fun k h => hms282 k (hs0245 k h)
          have hs0291 : Ms Mr68 M278 := fun k h => hms282 k (hs0246 k h)
          have hs0292 : Ms Mr135 M278 := fun k h => hms282 k (hsp238 k h)
          have hV285 : RulesVar w276 M278 S279 g1 ((indA 128 ++ indB 90 ++ indC 14 ++ indE k) ++ [(⟨([239, codesL[k]] : List Int), [4096 + (k : Int)]⟩ : PRule)]) := hV280
          have fr294 := Ge.grow wr243 hwr284 (Stp.size e272)
          refine WL.nil ?_
          refine CW.region ?_
          refine WL.add rfl rfl (by omega) ?_
          refine WL.move rfl ?_
          refine WL.nil ?_
          refine Loop.again _ _ ?_ ?_ ⟨k + 1, S279, M278, rfl, rfl, (Up.trans hU235 (Up.trans u261 (Up.trans u271 hu281))), e286, hs0292, hs0288, RulesVar.eq hV285 (by rw [indE_succ, ← List.append_assoc, codes_get hkl]), (RulesVar.ms hV285), fr294, by omega⟩
          · omega
          · exact .cons (t := 1) rfl (.cons (t := 2) rfl (.cons (t := 55) rfl (.cons (t := 56) rfl (.cons (t := 57) rfl (.nil _)))))
        · have hke : k = 9 := by omega
          refine CW.exit ?_
          refine CW.seq ?_
          refine CW.region ?_
          refine WL.move rfl ?_
          refine WL.bslice Try.underlying29 ti3 rfl (by decide) (by decide) (.cons rfl (.nil)) rfl (by simp [Value.cells]) (fun g295 w296 hg297 hb298 he299 => ?_)
          have hD300 : SlD IntR 1 w296 Mr234 (some ⟨g295, 0, none⟩) 1 ([217] : List Int) := Bk.ints (xs := [217]) hb298 (by decide) (MB.fresh hm237 hg297) (Nat.le_of_ble_eq_true rfl)
          have u301 := Ext.up he299 hm237
          have e302 := Stp.ext hE236 he299
          have hm303 := Up.mb u301
          refine WL.bslice Try.underlying29 ti3 rfl (by decide) (by decide) (.cons rfl (.nil)) rfl (by simp [Value.cells]) (fun g304 w305 hg306 hb307 he308 => ?_)
          have hD309 : SlD IntR 1 w305 Mr234 (some ⟨g304, 0, none⟩) 1 ([16397] : List Int) := Bk.ints (xs := [16397]) hb307 (by decide) (MB.fresh hm303 hg306) (Nat.le_of_ble_eq_true rfl)
          have u310 := Ext.up he308 hm303
          have e311 := Stp.ext e302 he308
          have hm312 := Up.mb u310
          have h313 := RulesVar.step h240 he299 (fun _ _ h => h) u301 mem242
          have h314 := RulesVar.step h313 he308 (fun _ _ h => h) u310 mem242
          refine WL.callv rfl Try.func98 rfl rfl (.cons rfl (.cons rfl (.nil))) (add_spec _ _ hm312 h314 (hD300.up u310) hD309 (by (first | omega | (simp only [List.length_append, List.length_cons, List.length_nil]; omega)))) (fun _ w315 hr316 => ?_)
          obtain ⟨M317, S318, hV319, hu320, hms321, hst322, hwr323⟩ := hr316
          have e325 := Stp.wr e311 hst322 (Wr.ofFr NoM wr243)
          have hm326 := Up.mb hu320
          have hs0327 : Ms M M317 := fun k h => hms321 k (hsb239 k h)
          have hs0328 : Ms M6 M317 := fun k h => hms321 k (hs0244 k h)
          have hs0329 : Ms Mr20 M317 := fun k h => hms321 k (hs0245 k h)
          have hs0330 : Ms Mr68 M317 := fun k h => hms321 k (hs0246 k h)
          have hs0331 : Ms Mr135 M317 := fun k h => hms321 k (hsp238 k h)
          have hV324 : RulesVar w315 M317 S318 g1 ((indA 128 ++ indB 90 ++ indC 14 ++ indE k) ++ [(⟨([217] : List Int), ([16397] : List Int)⟩ : PRule)]) := hV319
          have fr333 := Ge.grow wr243 hwr323 (Stp.size e311)
          refine WL.nil ?_
          refine CW.seq ?_
          refine CW.region ?_
          refine WL.move rfl ?_
          refine WL.bslice Try.underlying29 ti3 rfl (by decide) (by decide) (.cons rfl (.nil)) rfl (by simp [Value.cells]) (fun g334 w335 hg336 hb337 he338 => ?_)
          have hD339 : SlD IntR 1 w335 M317 (some ⟨g334, 0, none⟩) 1 ([234] : List Int) := Bk.ints (xs := [234]) hb337 (by decide) (MB.fresh hm326 hg336) (Nat.le_of_ble_eq_true rfl)
          have u340 := Ext.up he338 hm326
          have e341 := Stp.ext e325 he338
          have hm342 := Up.mb u340
          refine WL.bslice Try.underlying29 ti3 rfl (by decide) (by decide) (.cons rfl (.nil)) rfl (by simp [Value.cells]) (fun g343 w344 hg345 hb346 he347 => ?_)
          have hD348 : SlD IntR 1 w344 M317 (some ⟨g343, 0, none⟩) 1 ([10596] : List Int) := Bk.ints (xs := [10596]) hb346 (by decide) (MB.fresh hm342 hg345) (Nat.le_of_ble_eq_true rfl)
          have u349 := Ext.up he347 hm342
          have e350 := Stp.ext e341 he347
          have hm351 := Up.mb u349
          have mem352 : Ms S318 M317 := (RulesVar.ms hV324)
          have h353 := RulesVar.step hV324 he338 (fun _ _ h => h) u340 mem352
          have h354 := RulesVar.step h353 he347 (fun _ _ h => h) u349 mem352
          refine WL.callv rfl Try.func98 rfl rfl (.cons rfl (.cons rfl (.nil))) (add_spec _ _ hm351 h354 (hD339.up u349) hD348 (by (first | omega | (simp only [List.length_append, List.length_cons, List.length_nil]; omega)))) (fun _ w355 hr356 => ?_)
          obtain ⟨M357, S358, hV359, hu360, hms361, hst362, hwr363⟩ := hr356
          have e365 := Stp.wr e350 hst362 (Wr.ofFr NoM fr333)
          have hm366 := Up.mb hu360
          have hs0367 : Ms M M357 := fun k h => hms361 k (hs0327 k h)
          have hs0368 : Ms M6 M357 := fun k h => hms361 k (hs0328 k h)
          have hs0369 : Ms Mr20 M357 := fun k h => hms361 k (hs0329 k h)
          have hs0370 : Ms Mr68 M357 := fun k h => hms361 k (hs0330 k h)
          have hs0371 : Ms Mr135 M357 := fun k h => hms361 k (hs0331 k h)
          have hV364 : RulesVar w355 M357 S358 g1 (((indA 128 ++ indB 90 ++ indC 14 ++ indE k) ++ [(⟨([217] : List Int), ([16397] : List Int)⟩ : PRule)]) ++ [(⟨([234] : List Int), ([10596] : List Int)⟩ : PRule)]) := hV359
          have fr373 := Ge.grow fr333 hwr363 (Stp.size e350)
          refine WL.nil ?_
          refine CW.seq ?_
          refine CW.region ?_
          refine WL.move rfl ?_
          refine WL.bslice Try.underlying29 ti3 rfl (by decide) (by decide) (.cons rfl (.cons rfl (.nil))) rfl (by simp [Value.cells]) (fun g374 w375 hg376 hb377 he378 => ?_)
          have hD379 : SlD IntR 1 w375 M357 (some ⟨g374, 0, none⟩) 2 ([234, 233] : List Int) := Bk.ints (xs := [234, 233]) hb377 (by decide) (MB.fresh hm366 hg376) (Nat.le_of_ble_eq_true rfl)
          have u380 := Ext.up he378 hm366
          have e381 := Stp.ext e365 he378
          have hm382 := Up.mb u380
          refine WL.bslice Try.underlying29 ti3 rfl (by decide) (by decide) (.cons rfl (.nil)) rfl (by simp [Value.cells]) (fun g383 w384 hg385 hb386 he387 => ?_)
          have hD388 : SlD IntR 1 w384 M357 (some ⟨g383, 0, none⟩) 1 ([61] : List Int) := Bk.ints (xs := [61]) hb386 (by decide) (MB.fresh hm382 hg385) (Nat.le_of_ble_eq_true rfl)
          have u389 := Ext.up he387 hm382
          have e390 := Stp.ext e381 he387
          have hm391 := Up.mb u389
          have mem392 : Ms S358 M357 := (RulesVar.ms hV364)
          have h393 := RulesVar.step hV364 he378 (fun _ _ h => h) u380 mem392
          have h394 := RulesVar.step h393 he387 (fun _ _ h => h) u389 mem392
          refine WL.callv rfl Try.func98 rfl rfl (.cons rfl (.cons rfl (.nil))) (add_spec _ _ hm391 h394 (hD379.up u389) hD388 (by (first | omega | (simp only [List.length_append, List.length_cons, List.length_nil]; omega)))) (fun _ w395 hr396 => ?_)
          obtain ⟨M397, S398, hV399, hu400, hms401, hst402, hwr403⟩ := hr396
          have e405 := Stp.wr e390 hst402 (Wr.ofFr NoM fr373)
          have hm406 := Up.mb hu400
          have hs0407 : Ms M M397 := fun k h => hms401 k (hs0367 k h)
          have hs0408 : Ms M6 M397 := fun k h => hms401 k (hs0368 k h)
          have hs0409 : Ms Mr20 M397 := fun k h => hms401 k (hs0369 k h)
          have hs0410 : Ms Mr68 M397 := fun k h => hms401 k (hs0370 k h)
          have hs0411 : Ms Mr135 M397 := fun k h => hms401 k (hs0371 k h)
          have hV404 : RulesVar w395 M397 S398 g1 ((((indA 128 ++ indB 90 ++ indC 14 ++ indE k) ++ [(⟨([217] : List Int), ([16397] : List Int)⟩ : PRule)]) ++ [(⟨([234] : List Int), ([10596] : List Int)⟩ : PRule)]) ++ [(⟨([234, 233] : List Int), ([61] : List Int)⟩ : PRule)]) := hV399
          have fr413 := Ge.grow fr373 hwr403 (Stp.size e390)
          refine WL.nil ?_
          refine CW.seq ?_
          refine CW.region ?_
          refine WL.move rfl ?_
          refine WL.bslice Try.underlying29 ti3 rfl (by decide) (by decide) (.cons rfl (.cons rfl (.nil))) rfl (by simp [Value.cells]) (fun g414 w415 hg416 hb417 he418 => ?_)
          have hD419 : SlD IntR 1 w415 M397 (some ⟨g414, 0, none⟩) 2 ([232, 232] : List Int) := Bk.ints (xs := [232, 232]) hb417 (by decide) (MB.fresh hm406 hg416) (Nat.le_of_ble_eq_true rfl)
          have u420 := Ext.up he418 hm406
          have e421 := Stp.ext e405 he418
          have hm422 := Up.mb u420
          refine WL.bslice Try.underlying29 ti3 rfl (by decide) (by decide) (.cons rfl (.cons rfl (.nil))) rfl (by simp [Value.cells]) (fun g423 w424 hg425 hb426 he427 => ?_)
          have hD428 : SlD IntR 1 w424 M397 (some ⟨g423, 0, none⟩) 2 ([77, 16396] : List Int) := Bk.ints (xs := [77, 16396]) hb426 (by decide) (MB.fresh hm422 hg425) (Nat.le_of_ble_eq_true rfl)
          have u429 := Ext.up he427 hm422
          have e430 := Stp.ext e421 he427
          have hm431 := Up.mb u429
          have mem432 : Ms S398 M397 := (RulesVar.ms hV404)
          have h433 := RulesVar.step hV404 he418 (fun _ _ h => h) u420 mem432
          have h434 := RulesVar.step h433 he427 (fun _ _ h => h) u429 mem432
          refine WL.callv rfl Try.func98 rfl rfl (.cons rfl (.cons rfl (.nil))) (add_spec _ _ hm431 h434 (hD419.up u429) hD428 (by (first | omega | (simp only [List.length_append, List.length_cons, List.length_nil]; omega)))) (fun _ w435 hr436 => ?_)
          obtain ⟨M437, S438, hV439, hu440, hms441, hst442, hwr443⟩ := hr436
          have e445 := Stp.wr e430 hst442 (Wr.ofFr NoM fr413)
          have hm446 := Up.mb hu440
          have hs0447 : Ms M M437 := fun k h => hms441 k (hs0407 k h)
          have hs0448 : Ms M6 M437 := fun k h => hms441 k (hs0408 k h)
          have hs0449 : Ms Mr20 M437 := fun k h => hms441 k (hs0409 k h)
          have hs0450 : Ms Mr68 M437 := fun k h => hms441 k (hs0410 k h)
          have hs0451 : Ms Mr135 M437 := fun k h => hms441 k (hs0411 k h)
          have hV444 : RulesVar w435 M437 S438 g1 (((((indA 128 ++ indB 90 ++ indC 14 ++ indE k) ++ [(⟨([217] : List Int), ([16397] : List Int)⟩ : PRule)]) ++ [(⟨([234] : List Int), ([10596] : List Int)⟩ : PRule)]) ++ [(⟨([234, 233] : List Int), ([61] : List Int)⟩ : PRule)]) ++ [(⟨([232, 232] : List Int), ([77, 16396] : List Int)⟩ : PRule)]) := hV439
          have fr453 := Ge.grow fr413 hwr443 (Stp.size e430)
          refine WL.nil ?_
          refine CW.seq ?_
          refine CW.region ?_
          refine WL.move rfl ?_
          refine WL.bslice Try.underlying29 ti3 rfl (by decide) (by decide) (.cons rfl (.cons rfl (.nil))) rfl (by simp [Value.cells]) (fun g454 w455 hg456 hb457 he458 => ?_)
          have hD459 : SlD IntR 1 w455 M437 (some ⟨g454, 0, none⟩) 2 ([232, 233] : List Int) := Bk.ints (xs := [232, 233]) hb457 (by decide) (MB.fresh hm446 hg456) (Nat.le_of_ble_eq_true rfl)
          have u460 := Ext.up he458 hm446
          have e461 := Stp.ext e445 he458
          have hm462 := Up.mb u460
          refine WL.bslice Try.underlying29 ti3 rfl (by decide) (by decide) (.cons rfl (.cons rfl (.nil))) rfl (by simp [Value.cells]) (fun g463 w464 hg465 hb466 he467 => ?_)
          have hD468 : SlD IntR 1 w464 M437 (some ⟨g463, 0, none⟩) 2 ([77, 16397] : List Int) := Bk.ints (xs := [77, 16397]) hb466 (by decide) (MB.fresh hm462 hg465) (Nat.le_of_ble_eq_true rfl)
          have u469 := Ext.up he467 hm462
          have e470 := Stp.ext e461 he467
          have hm471 := Up.mb u469
          have mem472 : Ms S438 M437 := (RulesVar.ms hV444)
          have h473 := RulesVar.step hV444 he458 (fun _ _ h => h) u460 mem472
          have h474 := RulesVar.step h473 he467 (fun _ _ h => h) u469 mem472
          refine WL.callv rfl Try.func98 rfl rfl (.cons rfl (.cons rfl (.nil))) (add_spec _ _ hm471 h474 (hD459.up u469) hD468 (by (first | omega | (simp only [List.length_append, List.length_cons, List.length_nil]; omega)))) (fun _ w475 hr476 => ?_)
          obtain ⟨M477, S478, hV479, hu480, hms481, hst482, hwr483⟩ := hr476
          have e485 := Stp.wr e470 hst482 (Wr.ofFr NoM fr453)
          have hm486 := Up.mb hu480
          have hs0487 : Ms M M477 := fun k h => hms481 k (hs0447 k h)
          have hs0488 : Ms M6 M477 := fun k h => hms481 k (hs0448 k h)
          have hs0489 : Ms Mr20 M477 := fun k h => hms481 k (hs0449 k h)
          have hs0490 : Ms Mr68 M477 := fun k h => hms481 k (hs0450 k h)
          have hs0491 : Ms Mr135 M477 := fun k h => hms481 k (hs0451 k h)
          have hV484 : RulesVar w475 M477 S478 g1 ((((((indA 128 ++ indB 90 ++ indC 14 ++ indE k) ++ [(⟨([217] : List Int), ([16397] : List Int)⟩ : PRule)]) ++ [(⟨([234] : List Int), ([10596] : List Int)⟩ : PRule)]) ++ [(⟨([234, 233] : List Int), ([61] : List Int)⟩ : PRule)]) ++ [(⟨([232, 232] : List Int), ([77, 16396] : List Int)⟩ : PRule)]) ++ [(⟨([232, 233] : List Int), ([77, 16397] : List Int)⟩ : PRule)]) := hV479
          have fr493 := Ge.grow fr453 hwr483 (Stp.size e470)
          refine WL.nil ?_
          refine CW.seq ?_
          refine CW.region ?_
          refine WL.move rfl ?_
          refine WL.bslice Try.underlying29 ti3 rfl (by decide) (by decide) (.cons rfl (.cons rfl (.nil))) rfl (by simp [Value.cells]) (fun g494 w495 hg496 hb497 he498 => ?_)
          have hD499 : SlD IntR 1 w495 M477 (some ⟨g494, 0, none⟩) 2 ([240, 184] : List Int) := Bk.ints (xs := [240, 184]) hb497 (by decide) (MB.fresh hm486 hg496) (Nat.le_of_ble_eq_true rfl)
          have u500 := Ext.up he498 hm486
          have e501 := Stp.ext e485 he498
          have hm502 := Up.mb u500
          refine WL.bslice Try.underlying29 ti3 rfl (by decide) (by decide) (.cons rfl (.nil)) rfl (by simp [Value.cells]) (fun g503 w504 hg505 hb506 he507 => ?_)
          have hD508 : SlD IntR 1 w504 M477 (some ⟨g503, 0, none⟩) 1 ([82] : List Int) := Bk.ints (xs := [82]) hb506 (by decide) (MB.fresh hm502 hg505) (Nat.le_of_ble_eq_true rfl)
          have u509 := Ext.up he507 hm502
          have e510 := Stp.ext e501 he507
          have hm511 := Up.mb u509
          have mem512 : Ms S478 M477 := (RulesVar.ms hV484)
          have h513 := RulesVar.step hV484 he498 (fun _ _ h => h) u500 mem512
          have h514 := RulesVar.step h513 he507 (fun _ _ h => h) u509 mem512
          refine WL.callv rfl Try.func98 rfl rfl (.cons rfl (.cons rfl (.nil))) (add_spec _ _ hm511 h514 (hD499.up u509) hD508 (by (first | omega | (simp only [List.length_append, List.length_cons, List.length_nil]; omega)))) (fun _ w515 hr516 => ?_)
          obtain ⟨M517, S518, hV519, hu520, hms521, hst522, hwr523⟩ := hr516
          have e525 := Stp.wr e510 hst522 (Wr.ofFr NoM fr493)
          have hm526 := Up.mb hu520
          have hs0527 : Ms M M517 := fun k h => hms521 k (hs0487 k h)
          have hs0528 : Ms M6 M517 := fun k h => hms521 k (hs0488 k h)
          have hs0529 : Ms Mr20 M517 := fun k h => hms521 k (hs0489 k h)
          have hs0530 : Ms Mr68 M517 := fun k h => hms521 k (hs0490 k h)
          have hs0531 : Ms Mr135 M517 := fun k h => hms521 k (hs0491 k h)
          have hV524 : RulesVar w515 M517 S518 g1 (((((((indA 128 ++ indB 90 ++ indC 14 ++ indE k) ++ [(⟨([217] : List Int), ([16397] : List Int)⟩ : PRule)]) ++ [(⟨([234] : List Int), ([10596] : List Int)⟩ : PRule)]) ++ [(⟨([234, 233] : List Int), ([61] : List Int)⟩ : PRule)]) ++ [(⟨([232, 232] : List Int), ([77, 16396] : List Int)⟩ : PRule)]) ++ [(⟨([232, 233] : List Int), ([77, 16397] : List Int)⟩ : PRule)]) ++ [(⟨([240, 184] : List Int), ([82] : List Int)⟩ : PRule)]) := hV519
          have fr533 := Ge.grow fr493 hwr523 (Stp.size e510)
          refine WL.nil ?_
          refine CW.seq ?_
          refine CW.region ?_
          refine WL.move rfl ?_
          refine WL.bslice Try.underlying29 ti3 rfl (by decide) (by decide) (.cons rfl (.cons rfl (.nil))) rfl (by simp [Value.cells]) (fun g534 w535 hg536 hb537 he538 => ?_)
          have hD539 : SlD IntR 1 w535 M517 (some ⟨g534, 0, none⟩) 2 ([240, 191] : List Int) := Bk.ints (xs := [240, 191]) hb537 (by decide) (MB.fresh hm526 hg536) (Nat.le_of_ble_eq_true rfl)
          have u540 := Ext.up he538 hm526
          have e541 := Stp.ext e525 he538
          have hm542 := Up.mb u540
          refine WL.bslice Try.underlying29 ti3 rfl (by decide) (by decide) (.cons rfl (.nil)) rfl (by simp [Value.cells]) (fun g543 w544 hg545 hb546 he547 => ?_)
          have hD548 : SlD IntR 1 w544 M517 (some ⟨g543, 0, none⟩) 1 ([112] : List Int) := Bk.ints (xs := [112]) hb546 (by decide) (MB.fresh hm542 hg545) (Nat.le_of_ble_eq_true rfl)
          have u549 := Ext.up he547 hm542
          have e550 := Stp.ext e541 he547
          have hm551 := Up.mb u549
          have mem552 : Ms S518 M517 := (RulesVar.ms hV524)
          have h553 := RulesVar.step hV524 he538 (fun _ _ h => h) u540 mem552
          have h554 := RulesVar.step h553 he547 (fun _ _ h => h) u549 mem552
          refine WL.callv rfl Try.func98 rfl rfl (.cons rfl (.cons rfl (.nil))) (add_spec _ _ hm551 h554 (hD539.up u549) hD548 (by (first | omega | (simp only [List.length_append, List.length_cons, List.length_nil]; omega)))) (fun _ w555 hr556 => ?_)
          obtain ⟨M557, S558, hV559, hu560, hms561, hst562, hwr563⟩ := hr556
          have e565 := Stp.wr e550 hst562 (Wr.ofFr NoM fr533)
          have hm566 := Up.mb hu560
          have hs0567 : Ms M M557 := fun k h => hms561 k (hs0527 k h)
          have hs0568 : Ms M6 M557 := fun k h => hms561 k (hs0528 k h)
          have hs0569 : Ms Mr20 M557 := fun k h => hms561 k (hs0529 k h)
          have hs0570 : Ms Mr68 M557 := fun k h => hms561 k (hs0530 k h)
          have hs0571 : Ms Mr135 M557 := fun k h => hms561 k (hs0531 k h)
          have hV564 : RulesVar w555 M557 S558 g1 ((((((((indA 128 ++ indB 90 ++ indC 14 ++ indE k) ++ [(⟨([217] : List Int), ([16397] : List Int)⟩ : PRule)]) ++ [(⟨([234] : List Int), ([10596] : List Int)⟩ : PRule)]) ++ [(⟨([234, 233] : List Int), ([61] : List Int)⟩ : PRule)]) ++ [(⟨([232, 232] : List Int), ([77, 16396] : List Int)⟩ : PRule)]) ++ [(⟨([232, 233] : List Int), ([77, 16397] : List Int)⟩ : PRule)]) ++ [(⟨([240, 184] : List Int), ([82] : List Int)⟩ : PRule)]) ++ [(⟨([240, 191] : List Int), ([112] : List Int)⟩ : PRule)]) := hV559
          have fr573 := Ge.grow fr533 hwr563 (Stp.size e550)
          refine WL.nil ?_
          refine CW.seq ?_
          refine CW.region ?_
          obtain ⟨Az, cz, hSz, hbz, hSgz, hOz, hSoz⟩ := hV564
          refine WL.load sc49 rfl ((Bk.at_ (M := fun _ => False) hbz (fun h => h)).cell 0 _ rfl) ?_
          refine WL.assign rfl ?_
          refine WL.nil ?_
          refine CW.ret ?_
          refine Ret.one rfl rfl ?_
          exact ⟨_, ⟨Own.eq hOz (by rw [hke]; simp only [indR, indF, List.append_assoc, List.cons_append, List.nil_append]), fun k_ hk_ => fr573 k_ (hSoz k_ hk_), (Up.trans u7 (Up.trans hU21 (Up.trans hU69 (Up.trans u132 (Up.trans hU136 (Up.trans u231 (Up.trans hU235 (Up.trans u301 (Up.trans u310 (Up.trans hu320 (Up.trans u340 (Up.trans u349 (Up.trans hu360 (Up.trans u380 (Up.trans u389 (Up.trans hu400 (Up.trans u420 (Up.trans u429 (Up.trans hu440 (Up.trans u460 (Up.trans u469 (Up.trans hu480 (Up.trans u500 (Up.trans u509 (Up.trans hu520 (Up.trans u540 (Up.trans u549 hu560))))))))))))))))))))))))))), hs0567, e565⟩⟩
end Go.Proofs.Ytgbajkdomcmblaa
