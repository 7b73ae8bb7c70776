/- Decoders and encoders as machines; plain laws of the laws' own functions. -/
import Derived.Test.YtgbajkdomcmblaaMachM
namespace Go.Proofs.Ytgbajkdomcmblaa
open Go Go.RowKit Vc
set_option linter.unusedVariables false
set_option linter.unusedSimpArgs false
theorem PutR.more {w w' : World} {M M' S S1 S' : MS} {g : Nat} {v : Value} {ts : List PTok} (h : PutR w M S1 w' M' S' v ts) (hS : Ms S1 S) (hg : S g) (hl : g < w.heap.size) : PutR w M S w' M' (fun k => vb g k ∨ S' k) v ts where
  own := h.own
  new := h.new
  dj := Dj.or (fun k hk (hg : k = g) => by have := h.new k hk; omega) h.dj
  up := h.up
  ms := h.ms
  stp := h.stp.to hS
  wr := Wr.or (fun k (hk : k = g) => .inl (by rw [hk]; exact hg)) fun k hk => (h.wr k hk).imp (hS k) id
theorem DecO.lift {rs : List PRule} {w w' : World} {M M' S S1 S' : MS} {g gm : Nat} {v : Value} {r : List PTok × (List Int × Int)} (hSM : Ms S M) (hb : Bk w g 114 [.pointer (some ⟨gm, 0, none⟩)]) (hSg : S g) (h1 : Ms S1 S) (h2 : Dj S1 (vb g))
    (hP : PutR w M S1 w' M' S' v r.1) (hM : MatchR w' M' S' gm rs r.2.1 r.2.2) : ∃ M' S', PutR w M S w' M' S' v r.1 ∧ DecO g rs w' M' S' r.2 := by
  have hn : ¬ S1 g := fun h => h2 g h rfl
  have hd : Dj S' (vb g) := fun k hk (he : k = g) => by
    subst he
    rcases hP.wr k hk with h | h
    · exact hn h
    · have := hb.lt; omega
  exact ⟨_, _, hP.more h1 hSg hb.lt, gm, S', Ms.or (Ms.one (hP.ms _ (hSM _ hSg))) hM.ms, hb.stp hP.stp hn, .inl rfl, hM, fun _ h => .inr h, hd⟩
theorem dec_mach {rs : List PRule} (hg : GoodR rs) (g : Nat) : Mach (List Int × Int) 109 (.pointer (some ⟨g, 0, none⟩)) (DecO g rs) (matchPut rs) (matchFin rs) matchOk where
  ms := DecO.ms
  step := DecO.step
  put := by
    intro w M S s n u ⟨gm, S1, hSM, hb, hSg, hM, h1, h2⟩ hm hok hu
    refine ⟨73, .pointer (some ⟨gm, 0, none⟩), _, MethAt.field (by kernel_rfl) Try.underlying114 rfl rfl (by kernel_rfl) Try.underlying110 Try.underlying109 (hb.cell (j := 0) rfl), Try.func73, rfl, rfl, ?_⟩
    exact (put_spec w M hm hM hg hok.1 (by have := hok.2; omega) u hu).mono fun v w' ⟨M', S', hP, hM'⟩ => DecO.lift hSM hb hSg h1 h2 hP hM'
  fin := by
    intro w M S s n ⟨gm, S1, hSM, hb, hSg, hM, h1, h2⟩ hm hok
    refine ⟨95, .pointer (some ⟨gm, 0, none⟩), _, MethAt.field (by kernel_rfl) Try.underlying114 rfl rfl (by kernel_rfl) Try.underlying110 Try.underlying109 (hb.cell (j := 0) rfl), Try.func95, rfl, rfl, ?_⟩
    exact (end_spec w M hm hM hg hok.1 (by have := hok.2; omega)).mono fun v w' ⟨M', S', hP, hM'⟩ => DecO.lift hSM hb hSg h1 h2 hP hM'
  oks := matchOk.put hg.right
  okf := matchOk.fin hg.right
theorem dec_held {rs : List PRule} {g : Nat} {w : World} {M S : MS} {s : List Int × Int} (h : DecO g rs w M S s) (hm : MB w M) : ∃ r, MethAt Try.prog w 109 (.pointer (some ⟨g, 0, none⟩)) "Held" 74 r ∧ Fc Try.prog 74 #[r] w fun v w' => v = .int .i64 (s.1.length : Int) ∧ Ext w w' := by
  obtain ⟨gm, S1, hSM, hb, hSg, hM, h1, h2⟩ := h
  exact ⟨_, MethAt.field (by kernel_rfl) Try.underlying114 rfl rfl (by kernel_rfl) Try.underlying110 Try.underlying109 (hb.cell (j := 0) rfl), held_spec w M hm hM⟩
theorem enc_mach {rs : List PRule} (hg : GoodR rs) (g : Nat) : Mach EncS 61 (.pointer (some ⟨g, 0, none⟩)) (EncO g rs) (encPut rs) (encFin rs) encOk where
  ms := EncR.ms
  step := EncR.step
  put := by
    intro w M S s n u hE hm hok hu
    exact ⟨31, _, _, MethAt.self (by kernel_rfl) Try.underlying61, Try.func31, rfl, rfl, encPut_spec w M hm hE hg hok.1 (by have := hok.2.1; omega) hok.2.2 u hu⟩
  fin := by
    intro w M S s n hE hm hok
    exact ⟨79, _, _, MethAt.self (by kernel_rfl) Try.underlying61, Try.func79, rfl, rfl, encEnd_spec w M hm hE hg hok.1 (by have := hok.2.1; omega) hok.2.2⟩
  oks := encOk.put hg
  okf := encOk.fin hg
/-! The laws' own search. -/
theorem isLong_next {rs : List PRule} {us : List Int} {i : Nat} (hi : i < rs.length) (hne : 0 < rs[i].inn.length) {k n : Int} (h : IsLong (rs.take i) us k n) :
    ((rs[i].inn <+: us ∧ n < rs[i].inn.length) → IsLong (rs.take (i + 1)) us i rs[i].inn.length) ∧ (¬ (rs[i].inn <+: us ∧ n < rs[i].inn.length) → IsLong (rs.take (i + 1)) us k n) := by
  have hlen : (rs.take (i + 1)).length = i + 1 := by simp; omega
  have hmem : ∀ r ∈ rs.take (i + 1), r ∈ rs.take i ∨ r = rs[i] := fun r hr => by
    rw [List.take_succ_eq_append_getElem hi] at hr
    rcases List.mem_append.1 hr with h | h
    · exact .inl h
    · exact .inr (List.mem_singleton.1 h)
  constructor
  · rintro ⟨hp, hn⟩
    refine .inr ⟨i, by omega, rfl, by rw [List.getElem_take], by rw [List.getElem_take]; exact hp, fun r hr hpr => ?_⟩
    rw [List.getElem_take]
    rcases hmem r hr with h2 | rfl
    · rcases h with ⟨_, _, h3⟩ | ⟨j, hj, _, h4, h5, h6⟩
      · exact absurd hpr (h3 r h2)
      · have := h6 r h2 hpr; omega
    · exact Nat.le_refl _
  · intro hno
    rcases h with ⟨h1, h2, h3⟩ | ⟨j, hj, h1, h4, h5, h6⟩
    · refine .inl ⟨h1, h2, fun r hr hpr => ?_⟩
      rcases hmem r hr with h7 | rfl
      · exact h3 r h7 hpr
      · exact hno ⟨hpr, by omega⟩
    · have hj2 : j < i := by simp at hj; omega
      have he : (rs.take i)[j] = (rs.take (i + 1))[j]'(by omega) := by rw [List.getElem_take, List.getElem_take]
      rw [he] at h4 h5 h6
      refine .inr ⟨j, by omega, h1, h4, h5, fun r hr hpr => ?_⟩
      rcases hmem r hr with h7 | rfl
      · exact h6 r h7 hpr
      · by_cases hc : n < rs[i].inn.length
        · exact absurd ⟨hpr, hc⟩ hno
        · omega
theorem prefix_take {a us : List Int} (hl : a.length ≤ us.length) : (a = us.take a.length) = (a <+: us) := by
  rw [List.prefix_iff_eq_take]
theorem open_next {rs : List PRule} {us : List Int} {i : Nat} (hi : i < rs.length) : openP (rs.take (i + 1)) us = (openP (rs.take i) us || (decide (us.length < rs[i].inn.length) && decide (rs[i].inn.take us.length = us))) := by
  unfold openP; exact any_next hi
/-- The laws' joins. -/
def joinB (ahead all : List Int) (r : PRule) : Bool := decide (0 < ahead.length) && (decide (ahead.length < r.inn.length) && (decide (r.inn.length ≤ all.length) && decide (r.inn = all.take r.inn.length)))
theorem joins_any {rs : List PRule} (hr : RightR rs) (ahead us : List Int) : rs.any (joinB ahead (ahead ++ us)) = joinsP rs ahead us := by
  rw [Bool.eq_iff_iff]
  simp only [joinB, joinsP, List.any_eq_true, Bool.and_eq_true, decide_eq_true_eq]
  have hlong := longestP_is hr (ahead ++ us)
  constructor
  · rintro ⟨r, hr', h0, h1, h2, h3⟩
    refine ⟨h0, ?_⟩
    have hp : r.inn <+: ahead ++ us := by rw [← prefix_take h2]; exact h3
    rcases hlong with ⟨_, _, h4⟩ | ⟨i, hi, _, h4, _, h5⟩
    · exact absurd hp (h4 r hr')
    · have := h5 r hr' hp; omega
  · rintro ⟨h0, h1⟩
    rcases hlong with ⟨_, h3, _⟩ | ⟨i, hi, _, h4, h5, _⟩
    · omega
    · have hl := h5.length_le
      exact ⟨rs[i], List.getElem_mem hi, h0, by omega, hl, by rw [prefix_take hl]; exact h5⟩
end Go.Proofs.Ytgbajkdomcmblaa
