/- Plain laws of layer 16 that ISCII needs too (also in MachX, MachY). -/
import Derived.Test.YtgbajkdomcmblaaMachW
namespace Go.Proofs.Ytgbajkdomcmblaa
open Go Go.RowKit Vc
set_option linter.unusedVariables false
set_option linter.unusedSimpArgs false
theorem outs_len {n : Nat} : ∀ {ts : List PTok}, (∀ x ∈ ts, x.out.length ≤ n) → (outs ts).length ≤ n * ts.length
  | [], _ => by simp [outs]
  | x :: l, h => by
    have h1 := outs_len (ts := l) fun y hy => h y (by simp [hy])
    have h2 := h x (by simp)
    have h3 : outs (x :: l) = x.out ++ outs l := by simp [outs]
    rw [h3, List.length_append, List.length_cons, Nat.mul_add]
    omega
theorem outs_take_succ {ts : List PTok} {k : Nat} (hk : k < ts.length) : outs (ts.take (k + 1)) = outs (ts.take k) ++ ts[k].out := by
  rw [List.take_succ_eq_append_getElem hk, outs_append]
  simp [outs]
theorem outs_step {a b : List Int} {j : Nat} (hj : j < b.length) : a ++ b.take (j + 1) = (a ++ b.take j) ++ [b[j]] := by
  rw [List.take_succ_eq_append_getElem hj, List.append_assoc]
theorem err_next {ts : List PTok} {i : Nat} (hi : i < ts.length) (h : ∀ x ∈ ts.take i, x.err = 0) (he : ts[i].err = 0) : ∀ x ∈ ts.take (i + 1), x.err = 0 := by
  intro x hx
  rw [List.take_succ_eq_append_getElem hi] at hx
  rcases List.mem_append.1 hx with hx | hx
  · exact h x hx
  · rw [List.mem_singleton.1 hx]; exact he
theorem join_outs (rs : List PRule) (n : Nat) : ∀ (l : List PTok) (ah : List Int), (∀ x ∈ l, x.out.length ≤ n) → ∀ x ∈ (joinP rs ah l).1, x.out.length ≤ n
  | [], _, _ => by simp [joinP]
  | y :: l, ah, h => by
    intro x hx
    rcases List.mem_cons.1 hx with rfl | hx
    · have := h y (by simp)
      unfold joinTok; split
      · simp
      · exact this
    · exact join_outs rs n l _ (fun z hz => h z (by simp [hz])) x hx
theorem run_pos {rs : List PRule} (hr : RightR rs) : ∀ (us : List Int) (s : List Int × Int), s.2 ≤ (runP (matchPut rs) us s).2.2
  | [], s => by simp [runP]
  | u :: us, s => by
    have h1 := run_pos hr us (matchPut rs s u).2
    obtain ⟨_, _, h2, h3⟩ := match_facts hr s u
    have h4 := lens_nonneg _ h3
    simp only [runP]
    omega
theorem run_facts {rs : List PRule} (hg : GoodR rs) {us : List Int} {T : List PTok} {s : List Int × Int} (h : runP (matchPut rs) us ([], 0) = (T, s)) : 0 ≤ s.2 ∧ s.2 + s.1.length = us.length ∧ (outs T).length ≤ 8 * us.length := by
  obtain ⟨h1, h2⟩ := run_match hg.right us ([], 0)
  have h3 := run_pos hg.right us ([], 0)
  obtain ⟨h4, h5⟩ := batch_facts hg us 0
  rw [h] at h1 h2 h3
  simp only [List.nil_append, List.length_nil] at h1 h2 h3
  rw [h1] at h4 h5
  have h6 := outs_len (ts := T) fun x hx => h5 x (by simp [hx])
  simp only [List.length_append] at h4
  refine ⟨h3, by omega, ?_⟩
  have := Nat.mul_le_mul_left 8 (show T.length ≤ us.length by omega)
  omega
theorem put_outs {rs : List PRule} (hg : GoodR rs) (s : List Int × Int) (u : Int) (h0 : 0 ≤ s.2) (h : s.2 + s.1.length ≤ 1000000) : (matchPut rs s u).1.length ≤ 1000000000 ∧ ∀ x ∈ (matchPut rs s u).1, x.out.length ≤ 8 :=
  ⟨(matchOk.put (n := 0) hg.right ⟨h0, by omega⟩).2, EncR.take_outs hg false _ _ _ (Nat.le_refl _)⟩
theorem fin_facts {rs : List PRule} (hg : GoodR rs) (s : List Int × Int) : (matchFin rs s).1.length ≤ s.1.length ∧ ∀ x ∈ (matchFin rs s).1, x.out.length ≤ 8 :=
  ⟨(take_wait hg.right true _ s.1 s.2 (Nat.le_refl _)).2.2.2.2, EncR.take_outs hg true _ _ _ (Nat.le_refl _)⟩

theorem apart_eq_nat (rs : List PRule) (us : List Int) (d : Nat) : (joinP rs [] (batchP (turnP rs) us ((0 : Int) + (d : Int)))).1 = (joinP rs [] (batchP (turnP rs) us 0)).1.map (shift (d : Int)) := apart_eq rs us 0 d
theorem batch_in {rs : List PRule} : ∀ (m : Nat) (us : List Int) (a : Int), us.length ≤ m → ∀ x ∈ batchP rs us a, a ≤ x.at_ ∧ x.at_ ≤ a + us.length
  | 0, us, a, h => by
    have : us = [] := List.eq_nil_of_length_eq_zero (by omega)
    subst this
    simp [batch_nil]
  | m + 1, us, a, h => by
    intro x hx
    by_cases hu : us = []
    · subst hu; simp [batch_nil] at hx
    · have h1 := tok_pos rs us a
      have h2 := List.length_pos_iff.2 hu
      rw [batch_cons rs hu] at hx
      rcases List.mem_cons.1 hx with rfl | hx
      · have : (tokP rs us a).at_ = a := by unfold tokP; split <;> rfl
        omega
      · by_cases hd : us.drop (tokP rs us a).len.toNat = []
        · rw [hd, batch_nil] at hx; simp at hx
        · have h3 := List.length_pos_iff.2 hd
          have h4 := batch_in m _ _ (by simp only [List.length_drop]; omega) x hx
          simp only [List.length_drop] at h3 h4
          omega
theorem join_at (rs : List PRule) (p : Int → Prop) : ∀ (l : List PTok) (ah : List Int), (∀ x ∈ l, p x.at_) → ∀ x ∈ (joinP rs ah l).1, p x.at_
  | [], _, _ => by simp [joinP]
  | y :: l, ah, h => by
    intro x hx
    rcases List.mem_cons.1 hx with rfl | hx
    · have := h y (by simp)
      unfold joinTok; split <;> exact this
    · exact join_at rs p l _ (fun z hz => h z (by simp [hz])) x hx
theorem batch_at {rs : List PRule} (hg : GoodR rs) (us : List Int) : ∀ x ∈ (joinP rs [] (batchP (turnP rs) us 0)).1, 0 ≤ x.at_ ∧ x.at_ ≤ us.length :=
  join_at rs (fun z => 0 ≤ z ∧ z ≤ us.length) _ _ fun x hx => by have := batch_in _ us 0 (Nat.le_refl _) x hx; omega
end Go.Proofs.Ytgbajkdomcmblaa
