/- Plain laws of layer 16: where tokens begin; what an encoder has written whole a decoder reads as it was. -/
import Derived.Test.YtgbajkdomcmblaaMachV
namespace Go.Proofs.Ytgbajkdomcmblaa
open Go Go.RowKit Vc
set_option linter.unusedVariables false
set_option linter.unusedSimpArgs false
theorem match_ok0 {a : Int} {n : Nat} (h0 : 0 ≤ a) (h : a + n ≤ 100000000) : matchOk ([], a) n := ⟨h0, by simp only [List.length_nil]; omega⟩
theorem enc_ok0 {a : Int} {n : Nat} {ah : List Int} (h0 : 0 ≤ a) (h : a + n ≤ 100000000) (hl : ah.length ≤ 8) : encOk ⟨[], a, ah⟩ n := ⟨h0, by simp only [List.length_nil]; omega, hl⟩
/-- A token that begins later. -/
def shift (d : Int) (x : PTok) : PTok := ⟨x.at_ + d, x.len, x.out, x.err⟩
theorem tok_shift (rs : List PRule) (us : List Int) (a d : Int) : tokP rs us (a + d) = shift d (tokP rs us a) := by
  unfold tokP
  split <;> rfl
theorem batch_shift (rs : List PRule) (d : Int) : ∀ (m : Nat) (us : List Int) (a : Int), us.length ≤ m → batchP rs us (a + d) = (batchP rs us a).map (shift d)
  | 0, us, a, h => by
    have : us = [] := List.eq_nil_of_length_eq_zero (by omega)
    subst this
    simp [batch_nil]
  | m + 1, us, a, h => by
    by_cases hu : us = []
    · subst hu; simp [batch_nil]
    · have h1 := tok_pos rs us a
      have h2 := List.length_pos_iff.2 hu
      have h3 : (tokP rs us (a + d)).len = (tokP rs us a).len := by rw [tok_shift]; rfl
      rw [batch_cons rs hu, batch_cons rs hu, h3, show a + d + (tokP rs us a).len = a + (tokP rs us a).len + d by omega, batch_shift rs d m _ _ (by simp only [List.length_drop]; omega), tok_shift]
      rfl
theorem joinTok_shift (rs : List PRule) (ah : List Int) (d : Int) (x : PTok) : joinTok rs ah (shift d x) = shift d (joinTok rs ah x) := by
  unfold joinTok
  rw [show (shift d x).err = x.err from rfl, show (shift d x).out = x.out from rfl]
  split <;> rfl
theorem joinAhead_shift (rs : List PRule) (ah : List Int) (d : Int) (x : PTok) : joinAhead rs ah (shift d x) = joinAhead rs ah x := by
  unfold joinAhead
  rw [joinTok_shift]
  rfl
theorem join_shift (rs : List PRule) (d : Int) : ∀ (l : List PTok) (ah : List Int), joinP rs ah (l.map (shift d)) = ((joinP rs ah l).1.map (shift d), (joinP rs ah l).2)
  | [], ah => rfl
  | x :: l, ah => by simp only [List.map_cons, joinP, joinTok_shift, joinAhead_shift, join_shift rs d l]
theorem apart_eq (rs : List PRule) (us : List Int) (a d : Int) : (joinP rs [] (batchP (turnP rs) us (a + d))).1 = (joinP rs [] (batchP (turnP rs) us a)).1.map (shift d) := by
  rw [batch_shift _ d _ us a (Nat.le_refl _), join_shift]
/-- The last units that were written. -/
def lastOut (ah : List Int) (ts : List PTok) : List Int := ts.foldl (fun a x => if x.err = 0 then x.out else a) ah
theorem last_join (rs : List PRule) : ∀ (l : List PTok) (ah : List Int), lastOut ah (joinP rs ah l).1 = (joinP rs ah l).2
  | [], ah => rfl
  | x :: l, ah => by
    have ih := last_join rs l (joinAhead rs ah x)
    simp only [joinP]
    unfold lastOut at *
    rw [List.foldl_cons]
    have h : (if (joinTok rs ah x).err = 0 then (joinTok rs ah x).out else ah) = joinAhead rs ah x := by
      unfold joinAhead
      by_cases he : (joinTok rs ah x).err = 0
      · rw [if_pos he, if_pos he]
        unfold joinTok at he ⊢
        split at he
        · simp at he
        · rename_i hc; rw [if_neg hc]
      · rw [if_neg he, if_neg he]
    rw [h, ih]
theorem last_take_succ {ts : List PTok} {k : Nat} (hk : k < ts.length) (ah : List Int) : lastOut ah (ts.take (k + 1)) = if ts[k].err = 0 then ts[k].out else lastOut ah (ts.take k) := by
  unfold lastOut; rw [foldl_take_succ _ _ hk]
theorem joinTok_nil (rs : List PRule) (x : PTok) : joinTok rs [] x = x := by simp [joinTok, joinsP]
theorem join_head (rs : List PRule) (ah : List Int) {l : List PTok} (hl : 0 < l.length) (h : 0 < (joinP rs ah l).1.length) : (joinP rs ah l).1[0] = joinTok rs ah l[0] := by
  cases l with
  | nil => simp at hl
  | cons x l => rfl
theorem joinTok_err (rs : List PRule) (ah : List Int) {x : PTok} (hx : x.err = 0) : decide ((joinTok rs ah x).err ≠ 0) = joinsP rs ah x.out := by
  unfold joinTok
  rw [hx]
  cases h : joinsP rs ah x.out <;> simp [hx]
/-! What is written whole is read as it was. -/
def outs (ts : List PTok) : List Int := (ts.map PTok.out).flatten
theorem outs_append (a b : List PTok) : outs (a ++ b) = outs a ++ outs b := by simp [outs]
/-- Rules' first units and the others': an In that is whole. -/
theorem long_whole {rs : List PRule} (hg : GoodR rs) (hc : closedP rs = true) {r : PRule} (hr : r ∈ rs) {rest : List Int} (o : List Int) (hj : rest = [] ∨ (joinsP rs r.inn o = false ∧ 0 < o.length ∧ o <+: rest)) :
    tokP rs (r.inn ++ rest) = fun a => ⟨a, r.inn.length, r.out, 0⟩ := by
  have h0 := hg.ne r hr
  have hp : r.inn <+: r.inn ++ rest := List.prefix_append _ _
  have hmax : ∀ x ∈ rs, x.inn <+: r.inn ++ rest → x.inn.length ≤ r.inn.length := by
    intro x hx hpx
    rcases hj with rfl | ⟨hj, ho, hor⟩
    · have := hpx.length_le; simpa using this
    · by_cases hle : x.inn.length ≤ r.inn.length
      · exact hle
      · exfalso
        have hpo : r.inn ++ o <+: r.inn ++ rest := (List.prefix_append_right_inj _).2 hor
        have key : ∃ y ∈ rs, y.inn <+: r.inn ++ o ∧ r.inn.length < y.inn.length := by
          by_cases h1 : x.inn.length ≤ (r.inn ++ o).length
          · exact ⟨x, hx, List.prefix_of_prefix_length_le hpx hpo h1, by omega⟩
          · have h2 : r.inn ++ o <+: x.inn := List.prefix_of_prefix_length_le hpo hpx (by omega)
            have h3 := List.all_eq_true.1 hc x hx
            have h4 := List.all_eq_true.1 h3 (r.inn ++ o).length (List.mem_range.2 (by omega))
            have h5 : decide ((r.inn ++ o).length = 0) = false := by simp only [List.length_append]; exact decide_eq_false (by omega)
            rw [h5, Bool.false_or] at h4
            unfold begP at h4
            have h6 : decide ((r.inn ++ o).length ≤ 1) = false := by simp only [List.length_append]; exact decide_eq_false (by omega)
            rw [h6, Bool.false_and, Bool.or_false] at h4
            obtain ⟨y, hy, hye⟩ := List.any_eq_true.1 h4
            have hye := of_decide_eq_true hye
            rw [List.prefix_iff_eq_take] at h2
            rw [← h2] at hye
            exact ⟨y, hy, by rw [hye]; exact List.prefix_refl _, by rw [hye]; simp only [List.length_append]; omega⟩
        obtain ⟨y, hy, hyp, hyl⟩ := key
        have h7 : joinsP rs r.inn o = true := by
          unfold joinsP
          rw [decide_eq_true h0, Bool.true_and, decide_eq_true_eq]
          rcases longestP_is hg.right (r.inn ++ o) with ⟨_, _, h8⟩ | ⟨i, hi, _, h8, _, h9⟩
          · exact absurd hyp (h8 y hy)
          · have := h9 y hy hyp
            omega
        rw [hj] at h7
        cases h7
  obtain ⟨i, hi, hri⟩ := List.mem_iff_getElem.1 hr
  have hlong : IsLong rs (r.inn ++ rest) (i : Int) (r.inn.length : Int) := .inr ⟨i, hi, rfl, by rw [hri], by rw [hri]; exact hp, by rw [hri]; exact hmax⟩
  have he := IsLong.eqP hg.right hlong
  funext a
  unfold tokP
  rw [← he]
  simp only []
  rw [if_neg (by omega)]
  have ho : outP rs (i : Int) = r.out := by unfold outP; rw [Int.toNat_natCast, List.getElem?_eq_getElem hi, hri]
  rw [ho, Int.max_eq_right (by omega)]
/-- A rule the other way round. -/
theorem turn_of {rs : List PRule} : ∀ (l out : List PRule), (∀ r ∈ l, r ∈ rs) → (∀ x ∈ out, (⟨x.out, x.inn⟩ : PRule) ∈ rs) → ∀ x ∈ l.foldl turnStep out, (⟨x.out, x.inn⟩ : PRule) ∈ rs
  | [], out, _, h => h
  | r :: l, out, hl, h => by
    refine turn_of l _ (fun x hx => hl x (by simp [hx])) fun x hx => ?_
    unfold turnStep at hx
    split at hx
    · rcases List.mem_append.1 hx with hx | hx
      · exact h x hx
      · rw [List.mem_singleton.1 hx]; exact hl r (by simp)
    · exact h x hx
theorem turn_mem {rs : List PRule} {x : PRule} (h : x ∈ turnP rs) : (⟨x.out, x.inn⟩ : PRule) ∈ rs := turn_of rs [] (fun _ h => h) (by simp) x h
/-- A token that is right is of a rule. -/
theorem tok_rule {rs : List PRule} (hg : GoodR rs) {us : List Int} {a : Int} (h : (tokP (turnP rs) us a).err = 0) :
    ∃ r ∈ rs, (tokP (turnP rs) us a).out = r.inn ∧ us = r.out ++ us.drop (tokP (turnP rs) us a).len.toNat ∧ (tokP (turnP rs) us a).len = r.out.length := by
  rcases longestP_is hg.turn.right us with ⟨h1, h2, _⟩ | ⟨i, hi, h1, h2, h3, _⟩
  · unfold tokP at h
    rw [if_pos (by omega)] at h
    simp at h
  · have hm := turn_mem (List.getElem_mem hi)
    have h0 := hg.turn.ne _ (List.getElem_mem hi)
    have ht : tokP (turnP rs) us a = ⟨a, (turnP rs)[i].inn.length, (turnP rs)[i].out, 0⟩ := by
      unfold tokP
      rw [h1, h2, if_neg (by omega), Int.max_eq_right (by omega)]
      unfold outP
      rw [Int.toNat_natCast, List.getElem?_eq_getElem hi]
    refine ⟨_, hm, by rw [ht], ?_, by rw [ht]⟩
    rw [ht]
    simp only [Int.toNat_natCast]
    rw [List.prefix_iff_eq_take] at h3
    conv => lhs; rw [← List.take_append_drop (turnP rs)[i].inn.length us, ← h3]
theorem both {rs : List PRule} (hg : GoodR rs) (hc : closedP rs = true) : ∀ (m : Nat) (us : List Int) (a : Int) (ah : List Int) (b : Int), us.length ≤ m → (∀ x ∈ (joinP rs ah (batchP (turnP rs) us a)).1, x.err = 0) →
    outs (batchP rs (outs (joinP rs ah (batchP (turnP rs) us a)).1) b) = us ∧ (us ≠ [] → ∃ o, 0 < o.length ∧ o <+: outs (joinP rs ah (batchP (turnP rs) us a)).1 ∧ joinsP rs ah o = false)
  | 0, us, a, ah, b, h, _ => by
    have : us = [] := List.eq_nil_of_length_eq_zero (by omega)
    subst this
    simp [batch_nil, joinP, outs]
  | m + 1, us, a, ah, b, h, he => by
    by_cases hu : us = []
    · subst hu; simp [batch_nil, joinP, outs]
    · rw [batch_cons _ hu, joinP] at he ⊢
      simp only [] at he ⊢
      have h1 := he _ (List.mem_cons_self ..)
      have hx : joinTok rs ah (tokP (turnP rs) us a) = tokP (turnP rs) us a ∧ (tokP (turnP rs) us a).err = 0 ∧ joinsP rs ah (tokP (turnP rs) us a).out = false := by
        unfold joinTok at h1 ⊢
        split at h1
        · simp at h1
        · rename_i hcc
          rw [if_neg hcc]
          refine ⟨rfl, h1, ?_⟩
          simpa [h1] using hcc
      obtain ⟨hx1, hx2, hx3⟩ := hx
      obtain ⟨r, hr, ho, hus, hlen⟩ := tok_rule hg hx2
      have hah : joinAhead rs ah (tokP (turnP rs) us a) = r.inn := by unfold joinAhead; rw [hx1, if_pos hx2, ho]
      rw [hah] at he ⊢
      have hm0 := hg.mem hr
      have hdl : (us.drop (tokP (turnP rs) us a).len.toNat).length ≤ m := by
        have := List.length_pos_iff.2 hu
        simp only [List.length_drop]; omega
      obtain ⟨i1, i2⟩ := both hg hc m (us.drop (tokP (turnP rs) us a).len.toNat) (a + (tokP (turnP rs) us a).len) r.inn (b + r.inn.length) hdl (fun x hx => he x (List.mem_cons_of_mem _ hx))
      have hcons : outs (joinTok rs ah (tokP (turnP rs) us a) :: (joinP rs r.inn (batchP (turnP rs) (us.drop (tokP (turnP rs) us a).len.toNat) (a + (tokP (turnP rs) us a).len))).1) =
          r.inn ++ outs (joinP rs r.inn (batchP (turnP rs) (us.drop (tokP (turnP rs) us a).len.toNat) (a + (tokP (turnP rs) us a).len))).1 := by
        rw [hx1]; simp [outs, ho]
      rw [hcons]
      generalize hT : outs (joinP rs r.inn (batchP (turnP rs) (us.drop (tokP (turnP rs) us a).len.toNat) (a + (tokP (turnP rs) us a).len))).1 = T at *
      have hj : T = [] ∨ ∃ o, joinsP rs r.inn o = false ∧ 0 < o.length ∧ o <+: T := by
        by_cases hd : us.drop (tokP (turnP rs) us a).len.toNat = []
        · left; rw [← hT, hd]; simp [batch_nil, joinP, outs]
        · obtain ⟨o, h2, h3, h4⟩ := i2 hd
          exact .inr ⟨o, h4, h2, h3⟩
      have htok : tokP rs (r.inn ++ T) b = ⟨b, r.inn.length, r.out, 0⟩ := by
        rcases hj with hj | ⟨o, hj⟩
        · rw [long_whole hg hc hr [] (.inl hj)]
        · rw [long_whole hg hc hr o (.inr hj)]
      have hne : r.inn ++ T ≠ [] := by
        intro h9
        have := congrArg List.length h9
        simp only [List.length_append, List.length_nil] at this
        omega
      refine ⟨?_, fun _ => ⟨r.inn, hm0.1.1, List.prefix_append _ _, ho ▸ hx3⟩⟩
      rw [batch_cons rs hne, htok]
      simp only [Int.toNat_natCast, List.drop_left]
      have : outs ((⟨b, r.inn.length, r.out, 0⟩ : PTok) :: batchP rs T (b + r.inn.length)) = r.out ++ outs (batchP rs T (b + r.inn.length)) := by simp [outs]
      rw [this, i1]
      exact hus.symm
end Go.Proofs.Ytgbajkdomcmblaa
