/- Plain laws of ISCII: what is written is read as it was. -/
import Derived.Test.YtgbajkdomcmblaaIscI
namespace Go.Proofs.Ytgbajkdomcmblaa
open Go Go.RowKit Vc
set_option linter.unusedVariables false
set_option linter.unusedSimpArgs false
theorem outs_cons (x : PTok) (l : List PTok) : outs (x :: l) = x.out ++ outs l := by simp [outs]
theorem outs_shift (d : Int) (l : List PTok) : outs (l.map (shift d)) = outs l := by
  induction l with
  | nil => rfl
  | cons x l ih => rw [List.map_cons, outs_cons, outs_cons, ih]; rfl
theorem outs_meanT : ∀ (ts : List PTok) (sc : Int), outs (meanT sc ts).1 = (meanUs sc (outs ts)).1 ∧ (meanT sc ts).2 = (meanUs sc (outs ts)).2
  | [], sc => ⟨rfl, rfl⟩
  | x :: ts, sc => by
    have ih := outs_meanT ts (meanUs sc x.out).2
    rw [outs_cons, meanUs_append]
    simp only [meanT]
    rw [outs_cons]
    exact ⟨by rw [ih.1], ih.2⟩
/-- The units that bytes stand for. -/
def ubP (X : List Int) : List Int := outs (batchP indR X 0)
theorem outs_batch (X : List Int) (b : Int) : outs (batchP indR X b) = ubP X := by
  have h := batch_shift indR b _ X 0 (Nat.le_refl _)
  rw [Int.zero_add] at h
  rw [h, outs_shift]; rfl
theorem ub_nil : ubP [] = [] := by unfold ubP; rw [batch_nil]; rfl
theorem ub_uok (X : List Int) : ∀ u ∈ ubP X, uOk u := by
  intro u hu
  unfold ubP outs at hu
  rw [List.mem_flatten] at hu
  obtain ⟨l, hl, hu⟩ := hu
  rw [List.mem_map] at hl
  obtain ⟨x, hx, rfl⟩ := hl
  exact batch_uok X x hx u hu
/-- What was written, with more behind it that joins nothing. -/
theorem bothX {rs : List PRule} (hg : GoodR rs) (hc : closedP rs = true) {X : List Int} (hX : X = [] ∨ ∃ o, 0 < o.length ∧ o <+: X ∧ ∀ r ∈ rs, joinsP rs r.inn o = false) : ∀ (m : Nat) (us : List Int) (a : Int) (ah : List Int) (b : Int), us.length ≤ m → (∀ x ∈ (joinP rs ah (batchP (turnP rs) us a)).1, x.err = 0) →
    outs (batchP rs (outs (joinP rs ah (batchP (turnP rs) us a)).1 ++ X) b) = us ++ outs (batchP rs X (b + (outs (joinP rs ah (batchP (turnP rs) us a)).1).length))
  | 0, us, a, ah, b, h, _ => by
    have : us = [] := List.eq_nil_of_length_eq_zero (by omega)
    subst this
    simp [batch_nil, joinP, outs]
  | m + 1, us, a, ah, b, h, he => by
    by_cases hu : us = []
    · subst hu; simp [batch_nil, joinP, outs]
    · rw [batch_cons _ hu, joinP] at he ⊢
      simp only [] at he ⊢
      have h1 := he _ (List.mem_cons_self ..)
      have hx : joinTok rs ah (tokP (turnP rs) us a) = tokP (turnP rs) us a ∧ (tokP (turnP rs) us a).err = 0 := by
        unfold joinTok at h1 ⊢
        split at h1
        · simp at h1
        · rename_i hcc
          rw [if_neg hcc]
          exact ⟨rfl, h1⟩
      obtain ⟨hx1, hx2⟩ := hx
      obtain ⟨r, hr, ho, hus, hlen⟩ := tok_rule hg hx2
      have hah : joinAhead rs ah (tokP (turnP rs) us a) = r.inn := by unfold joinAhead; rw [hx1, if_pos hx2, ho]
      rw [hah] at he ⊢
      have hm0 := hg.mem hr
      have hdl : (us.drop (tokP (turnP rs) us a).len.toNat).length ≤ m := by
        have := List.length_pos_iff.2 hu
        simp only [List.length_drop]; omega
      have i1 := bothX hg hc hX m (us.drop (tokP (turnP rs) us a).len.toNat) (a + (tokP (turnP rs) us a).len) r.inn (b + r.inn.length) hdl (fun x hx => he x (List.mem_cons_of_mem _ hx))
      have i2 := (both hg hc m (us.drop (tokP (turnP rs) us a).len.toNat) (a + (tokP (turnP rs) us a).len) r.inn 0 hdl (fun x hx => he x (List.mem_cons_of_mem _ hx))).2
      have hcons : outs (joinTok rs ah (tokP (turnP rs) us a) :: (joinP rs r.inn (batchP (turnP rs) (us.drop (tokP (turnP rs) us a).len.toNat) (a + (tokP (turnP rs) us a).len))).1) =
          r.inn ++ outs (joinP rs r.inn (batchP (turnP rs) (us.drop (tokP (turnP rs) us a).len.toNat) (a + (tokP (turnP rs) us a).len))).1 := by
        rw [hx1]; simp [outs, ho]
      rw [hcons]
      generalize hT : outs (joinP rs r.inn (batchP (turnP rs) (us.drop (tokP (turnP rs) us a).len.toNat) (a + (tokP (turnP rs) us a).len))).1 = T at *
      have hj : T ++ X = [] ∨ ∃ o, joinsP rs r.inn o = false ∧ 0 < o.length ∧ o <+: T ++ X := by
        by_cases hd : us.drop (tokP (turnP rs) us a).len.toNat = []
        · have hT0 : T = [] := by rw [← hT, hd]; simp [batch_nil, joinP, outs]
          rw [hT0, List.nil_append]
          rcases hX with hX | ⟨o, h2, h3, h4⟩
          · exact .inl hX
          · exact .inr ⟨o, h4 r hr, h2, h3⟩
        · obtain ⟨o, h2, h3, h4⟩ := i2 hd
          exact .inr ⟨o, h4, h2, h3.trans (List.prefix_append _ _)⟩
      have htok : tokP rs (r.inn ++ (T ++ X)) b = ⟨b, r.inn.length, r.out, 0⟩ := by
        rcases hj with hj | ⟨o, hj⟩
        · rw [long_whole hg hc hr [] (.inl hj)]
        · rw [long_whole hg hc hr o (.inr hj)]
      have hne : r.inn ++ (T ++ X) ≠ [] := by
        intro h9
        have := congrArg List.length h9
        simp only [List.length_append, List.length_nil] at this
        omega
      rw [List.append_assoc, batch_cons rs hne, htok]
      simp only [Int.toNat_natCast, List.drop_left]
      rw [outs_cons, i1]
      simp only []
      rw [← List.append_assoc, List.length_append, ← hus]
      congr 3
      omega
theorem no239 : indR.all (fun r => (r.inn.drop 1).all fun u => decide (u ≠ 239)) = true := by kernel_rfl
theorem joins239 {r : PRule} (hr : r ∈ indR) (c : Int) : joinsP indR r.inn [239, c] = false := by
  unfold joinsP
  rw [Bool.and_eq_false_iff, decide_eq_false_iff_not, decide_eq_false_iff_not]
  rcases longestP_is indR_good.right (r.inn ++ [239, c]) with ⟨_, h2, _⟩ | ⟨i, hi, _, h2, hp, _⟩
  · right; rw [h2]; omega
  · right
    rw [h2]
    intro hlt
    have h0 := (indR_good.mem hr).1.1
    have hlt2 : r.inn.length < indR[i].inn.length := by omega
    have h3 : indR[i].inn[r.inn.length] = 239 := by
      have h4 := hp.getElem hlt2
      rw [h4, List.getElem_append_right (Nat.le_refl _)]
      simp
    have h5 := List.all_eq_true.1 no239 _ (List.getElem_mem hi)
    have h6 : (239 : Int) ∈ indR[i].inn.drop 1 := by
      rw [List.mem_iff_getElem]
      refine ⟨r.inn.length - 1, by rw [List.length_drop]; omega, ?_⟩
      rw [List.getElem_drop]
      simp only [show 1 + (r.inn.length - 1) = r.inn.length by omega]
      exact h3
    have h7 := List.all_eq_true.1 h5 _ h6
    simp at h7
def swOk (s : Nat) : Bool := decide (tokP indR [239, codesL.getD s 0] 0 = ⟨0, 2, [4096 + (s : Int)], 0⟩) && !(openP indR [239, codesL.getD s 0])
theorem sw_all : (List.range 9).all swOk = true := by kernel_rfl
theorem ub_sw {s : Int} (h0 : 0 ≤ s) (h9 : s < 9) (X : List Int) : ubP ([239, codesL.getD s.toNat 0] ++ X) = [4096 + s] ++ ubP X := by
  have h := List.all_eq_true.1 sw_all s.toNat (List.mem_range.2 (by omega))
  unfold swOk at h
  rw [Bool.and_eq_true, decide_eq_true_eq, Bool.not_eq_true'] at h
  have ht : tokP indR ([239, codesL.getD s.toNat 0] ++ X) 0 = ⟨0, 2, [4096 + s], 0⟩ := by
    have h1 : tokP indR ([239, codesL.getD s.toNat 0] ++ X) 0 = tokP indR [239, codesL.getD s.toNat 0] 0 := by unfold tokP; rw [long_more indR_good.right h.2]
    rw [h1, h.1, Int.toNat_of_nonneg h0]
  unfold ubP
  rw [batch_cons _ (by simp), ht, outs_cons]
  simp only [show (2 : Int).toNat = 2 from rfl, List.cons_append, List.nil_append, List.drop_succ_cons, List.drop_zero]
  rw [outs_batch]; rfl
theorem enc_back {us : List Int} (he : ∀ y ∈ encP us, y.err = 0) : ubP (outs (encP us)) = us := by
  have h := (both indR_good indR_closed _ us 0 [] 0 (Nat.le_refl _) he).1
  exact h
theorem enc_backX {us : List Int} (he : ∀ y ∈ encP us, y.err = 0) (c : Int) (X : List Int) : ubP (outs (encP us) ++ ([239, c] ++ X)) = us ++ ubP ([239, c] ++ X) := by
  have h := bothX (X := [239, c] ++ X) indR_good indR_closed (.inr ⟨[239, c], by simp, List.prefix_append _ _, fun r hr => joins239 hr c⟩) _ us 0 [] 0 (Nat.le_refl _) he
  rw [outs_batch] at h
  exact h.trans (by rw [outs_batch])
theorem meanU_unit {sc x : Int} (h0 : 0 ≤ unitOf x) (hs : indIs x = true → indScript x = sc) : meanU sc (unitOf x) = ([x], sc) := by
  unfold unitOf at *
  cases hb : scalarB x with
  | false => rw [hb] at h0; simp at h0
  | true =>
    have hr := scalar_range hb
    cases hi : indIs x with
    | false =>
      simp only [if_true, Bool.false_eq_true, if_false]
      unfold meanU
      rw [if_pos (by omega), show 8192 + x - 8192 = x by omega]
    | true =>
      have hsr := script_range hi
      have := hs hi
      simp only [if_true]
      unfold meanU
      rw [if_neg (by omega), if_neg (by omega), ← this]
      unfold indScript indPlace
      rw [show 2304 + 128 * ((x - 2304) / 128) + (x - 2304) % 128 = x by omega]
/-- What the laws' Encode has come to, read back. -/
structure BackI (q : LEnc) (l W : List Int) : Prop where
  ub : ∀ X, ubP (outs q.ou ++ X) = W ++ ubP X
  mean : (∀ u ∈ q.us, 0 ≤ u) → meanUs 0 (W ++ q.us) = (l, q.sc)
theorem back_step {q : LEnc} {l W : List Int} (h : BackI q l W) (n x : Int) (he : ∀ y ∈ (lstep q n x).ou, y.err = 0) : ∃ W', BackI (lstep q n x) (l ++ [x]) W' := by
  unfold lstep at he ⊢
  split
  · rename_i hc
    rw [if_pos hc] at he
    rw [Bool.and_eq_true] at hc
    have hs := script_range hc.1
    have hee : ∀ y ∈ encP q.us, y.err = 0 := fun y hy => he (shift q.fr y) (by simp only [List.mem_append, List.mem_map]; exact .inl (.inr ⟨y, hy, rfl⟩))
    have hpos : ∀ u ∈ q.us, 0 ≤ u := fun u hu => (ub_uok _ u (by rw [enc_back hee]; exact hu)).1
    refine ⟨W ++ q.us ++ [4096 + indScript x], fun X => ?_, fun hu => ?_⟩
    · simp only [outs_append, outs_shift, List.append_assoc]
      rw [h.ub, show outs [switchTok n (indScript x)] = [239, codesL.getD (indScript x).toNat 0] from rfl, enc_backX hee, ub_sw hs.1 hs.2.1]
    · have h1 := h.mean hpos
      rw [meanUs_append, meanUs_append, h1]
      have h2 : meanUs q.sc [4096 + indScript x] = ([], indScript x) := by
        unfold meanUs meanUs meanU
        rw [if_neg (by omega), if_pos (by omega), show 4096 + indScript x - 4096 = indScript x by omega]
        rfl
      rw [h2]
      have h3 := meanU_unit (sc := indScript x) (hu _ (List.mem_singleton.2 rfl)) (fun _ => rfl)
      simp only [meanUs]
      rw [h3]
      simp
  · rename_i hc
    rw [if_neg hc] at he
    refine ⟨W, h.ub, fun hu => ?_⟩
    have h1 := h.mean fun u hv => hu u (List.mem_append_left _ hv)
    simp only [] at hu ⊢
    rw [← List.append_assoc, meanUs_append, h1]
    have h3 := meanU_unit (sc := q.sc) (x := x) (hu _ (List.mem_append_right _ (List.mem_singleton.2 rfl))) (fun hi => by
      rw [hi, Bool.true_and, decide_eq_true_eq] at hc
      exact Classical.not_not.1 hc)
    simp only [meanUs]
    rw [h3]
    simp
theorem step_mono (q : LEnc) (n x : Int) {y : PTok} (hy : y ∈ q.ou) : y ∈ (lstep q n x).ou := by
  unfold lstep
  split
  · simp only [List.mem_append]; exact .inl (.inl hy)
  · exact hy
theorem back_run (l : List Int) : ∀ k, k ≤ l.length → (∀ y ∈ (lrun (l.take k) 0 l0).ou, y.err = 0) → ∃ W, BackI (lrun (l.take k) 0 l0) (l.take k) W := by
  intro k
  induction k with
  | zero => intro _ _; exact ⟨[], fun X => rfl, fun _ => rfl⟩
  | succ k ih =>
    intro hk he
    have hkl : k < l.length := by omega
    rw [lrun_take_succ hkl] at he ⊢
    obtain ⟨W, hW⟩ := ih (by omega) fun y hy => he y (step_mono _ _ _ hy)
    rw [List.take_succ_eq_append_getElem hkl]
    exact back_step hW _ _ he
/-- What is written whole is read as it was. -/
theorem back_law (l : List Int) (he : ∀ y ∈ (lawEnc l).ou, y.err = 0) : meanUs 0 (ubP (outs (lawEnc l).ou)) = (l, (lawEnc l).sc) := by
  have hq : lawEnc l = restP (lrun l 0 l0) := rfl
  rw [hq] at he ⊢
  have h1 := back_run l l.length (Nat.le_refl _)
  rw [List.take_length] at h1
  obtain ⟨W, hW⟩ := h1 fun y hy => he y (by simp only [restP, List.mem_append]; exact .inl hy)
  generalize lrun l 0 l0 = q at *
  have hee : ∀ y ∈ encP q.us, y.err = 0 := fun y hy => he (shift q.fr y) (by simp only [restP, List.mem_append, List.mem_map]; exact .inr ⟨y, hy, rfl⟩)
  have hpos : ∀ u ∈ q.us, 0 ≤ u := fun u hu => (ub_uok _ u (by rw [enc_back hee]; exact hu)).1
  simp only [restP, outs_append, outs_shift]
  rw [hW.ub, enc_back hee]
  exact hW.mean hpos
/-- The stage's theorem, plain. -/
theorem back_all (l : List Int) (he : ∀ y ∈ (lawEnc l).ou, y.err = 0) : outs (allP idecPut idecFin (outs (lawEnc l).ou) dec0).1 = l ∧ (allP idecPut idecFin (outs (lawEnc l).ou) dec0).2.sc = (lawEnc l).sc := by
  have h := back_law l he
  rw [all_idec]
  obtain ⟨h1, h2⟩ := outs_meanT (batchP indR (outs (lawEnc l).ou) 0) 0
  simp only []
  rw [h1, h2]
  change (meanUs 0 (ubP (outs (lawEnc l).ou))).1 = l ∧ (meanUs 0 (ubP (outs (lawEnc l).ou))).2 = (lawEnc l).sc
  rw [h]
  exact ⟨rfl, rfl⟩
end Go.Proofs.Ytgbajkdomcmblaa
