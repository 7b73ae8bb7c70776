/- Whatever the input: the law VietAdd answers true, and what it reads is as it was; no condition. -/
import Derived.Test.YtgbajkdomcmblaaRows
import Derived.Test.YtgbajkdomcmblaaVietC
import Derived.Test.YtgbajkdomcmblaaRowsKit
namespace Go.Proofs.Ytgbajkdomcmblaa.vietAdd
open Go Vc Go.ChangeShapes Go.WideShapes Go.ChangeAt Go.RowKit
set_option linter.unusedVariables false
theorem own : ownKnob Try.prog.godebug = none := by kernel_rfl
theorem laidOut : laidOutB Try.prog = true := by kernel_rfl
theorem readAll : (Try.f3.params.toList.all fun t => Try.prog.readableRec t && decide (t < Try.prog.types.size)) = true := by kernel_rfl
set_option maxRecDepth 100000 in
theorem lifted (os : Os) (started : os.Started) (H : Type) (enc : TypeId × Value → H) :
    ReturnsInHanded {} Try.checked os 3 .any (Rows.vietAddSpec.pre6 enc Try.prog Try.f3 Rows.vietAddRow.domain false) (Rows.vietAddSpec.post enc Try.prog Try.f3 false true false false) := by
  refine returnsInHanded_of_change (C := Try.checked) own started (by kernel_rfl) Try.func3
    (ChangeSpec.witness6 (enc := enc) (C := Try.checked) false ⟨#[], #[.int .u8 0, .int .u8 0, .float .f64 0, .float .f64 0], []⟩ 8 (by kernel_rfl) (by kernel_rfl) (by kernel_rfl) (by kernel_rfl)) ?_
  intro w base args ds gs before hval0 hW hcnd _
  have hval : ∀ (j : Nat) t v, Try.f3.params[j]? = some t → args[j]? = some v → Value.okWide Try.prog w .any base t v := hval0
  have hW' := hW
  have hlt := hW.lt
  obtain ⟨p, q, hA0, hV, rfl, hfz, hnd⟩ := hW
  obtain ⟨rfl, rfl⟩ := trodVars_none hV
  simp only [List.append_nil] at hW' hlt
  have hA : DataW.TrodAll enc Try.prog w 0 (fun _ => true) true Try.f3.params.toList args.toList ds p := hA0
  have hA1 := hA
  rw [Try.params3] at hA hval
  obtain ⟨v0, vs0, d0, ds0, p0, q0, hargs0, rfl, hp0, h0, r0⟩ := trodAll_cons hA
  obtain ⟨v1, vs1, d1, ds1, p1, q1, hargs1, rfl, hp1, h1, r1⟩ := trodAll_cons r0
  obtain ⟨v2, vs2, d2, ds2, p2, q2, hargs2, rfl, hp2, h2, r2⟩ := trodAll_cons r1
  obtain ⟨v3, vs3, d3, ds3, p3, q3, hargs3, rfl, hp3, h3, r3⟩ := trodAll_cons r2
  obtain ⟨rfl, rfl, hpn⟩ := trodAll_nil r3
  subst hargs3
  subst hargs2
  subst hargs1
  obtain rfl : args = #[v0, v1, v2, v3] := Array.toList_inj.1 hargs0
  obtain ⟨z0, rfl, rfl, _, w0⟩ := open_int Try.underlying5 (hval 0 5 v0 rfl rfl) h0
  obtain ⟨a0, rfl, b0⟩ := u8nat w0
  obtain ⟨z1, rfl, rfl, _, w1⟩ := open_int Try.underlying5 (hval 1 5 v1 rfl rfl) h1
  obtain ⟨a1, rfl, b1⟩ := u8nat w1
  obtain ⟨a2, rfl, rfl, _, w2⟩ := open_float Try.underlying22 (hval 2 22 v2 rfl rfl) h2
  obtain ⟨a3, rfl, rfl, _, w3⟩ := open_float Try.underlying22 (hval 3 22 v3 rfl rfl) h3
  have walk : Fc Try.prog 3 #[.int .u8 (a0 : Int), .int .u8 (a1 : Int), .float .f64 a2, .float .f64 a3] w (fun v w' => v = .bool true ∧ Ext w w') := by
    exact VietAdd_walk w (fun _ => False) (MB.none w) b0 b1 a2 a3
  refine walk.row.mono fun e W' ⟨he, hg⟩ => ?_
  subst he
  exact ⟨_, rfl, post_of_below (pa := p) (pv := []) hW' (fun _ _ _ => (trodAll_cons_mk (shut_bool Try.underlying4 _) trodAll_mk0)) (fun sp hsp => trodAll_stays laidOut hg readAll hA1 (fun x hx => hlt x hx) (fun x hx => hsp x hx)) (fun _ _ => rfl) (by simp)
    hg (ok_one (by kernel_rfl) rfl (okWide_bool_mk Try.underlying4 _))⟩
theorem over : Rows.vietAddRow.holds Try.pinned (OpenSpec.ofChange Rows.vietAddSpec) :=
  OpenClaim.holds_of_wide 3 Try.f3 rfl rfl rfl rfl rfl rfl rfl ⟨rfl, rfl, rfl, rfl, rfl⟩ rfl rfl rfl rfl rfl (by kernel_rfl) Try.func3 (by kernel_rfl)
    (of_decide_eq_true (by kernel_rfl)) (by unfold Func.isWrapper; first | (rw [if_pos (by decide +kernel)]; kernel_rfl) | (rw [if_neg (by decide +kernel)]; exact ⟨rfl, rfl⟩))
    (fun os started H enc _ => lifted os started H enc)
end Go.Proofs.Ytgbajkdomcmblaa.vietAdd
namespace Go.Proofs.Ytgbajkdomcmblaa
theorem vietAdd_holds : Rows.VietAddSaid := vietAdd.over
end Go.Proofs.Ytgbajkdomcmblaa
