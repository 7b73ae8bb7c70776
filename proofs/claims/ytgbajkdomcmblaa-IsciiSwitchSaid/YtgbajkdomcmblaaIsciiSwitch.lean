/- Whatever the input: the law IsciiSwitch answers true, and what it reads is as it was; no condition. -/
import Derived.Test.YtgbajkdomcmblaaRows
import Derived.Test.YtgbajkdomcmblaaIscN
import Derived.Test.YtgbajkdomcmblaaRowsKit
import Derived.Test.YtgbajkdomcmblaaRowsM
namespace Go.Proofs.Ytgbajkdomcmblaa.isciiSwitch
open Go Vc Go.ChangeShapes Go.WideShapes Go.ChangeAt Go.RowKit
set_option linter.unusedVariables false
theorem own : ownKnob Try.prog.godebug = none := by kernel_rfl
theorem laidOut : laidOutB Try.prog = true := by kernel_rfl
theorem readAll : (Try.f13.params.toList.all fun t => Try.prog.readableRec t && decide (t < Try.prog.types.size)) = true := by kernel_rfl
set_option maxRecDepth 100000 in
theorem lifted (os : Os) (started : os.Started) (H : Type) (enc : TypeId × Value → H) :
    ReturnsInHanded {} Try.checked os 13 .any (Rows.isciiSwitchSpec.pre6 enc Try.prog Try.f13 Rows.isciiSwitchRow.domain false) (Rows.isciiSwitchSpec.post enc Try.prog Try.f13 false true false false) := by
  refine returnsInHanded_of_change (C := Try.checked) own started (by kernel_rfl) Try.func13
    (ChangeSpec.witness6 (enc := enc) (C := Try.checked) false ⟨#[], #[.slice none 0 0], []⟩ 8 (by kernel_rfl) (by kernel_rfl) (by kernel_rfl) (by kernel_rfl)) ?_
  intro w base args ds gs before hval0 hW hcnd _
  have hval : ∀ (j : Nat) t v, Try.f13.params[j]? = some t → args[j]? = some v → Value.okWide Try.prog w .any base t v := hval0
  have hW' := hW
  have hlt := hW.lt
  obtain ⟨p, q, hA0, hV, rfl, hfz, hnd⟩ := hW
  obtain ⟨rfl, rfl⟩ := trodVars_none hV
  simp only [List.append_nil] at hW' hlt
  have hA : DataW.TrodAll enc Try.prog w 0 (fun _ => true) true Try.f13.params.toList args.toList ds p := hA0
  have hA1 := hA
  rw [Try.params13] at hA hval
  obtain ⟨v0, vs0, d0, ds0, p0, q0, hargs0, rfl, hp0, h0, r0⟩ := trodAll_cons hA
  obtain ⟨rfl, rfl, hpn⟩ := trodAll_nil r0
  obtain rfl : args = #[v0] := Array.toList_inj.1 hargs0
  obtain ⟨x0, k0⟩ := open_bytes Try.underlying44 Try.underlying5 (by kernel_rfl) h0 (slice_cells Try.underlying44 (hval 0 44 v0 rfl rfl))
  have walk : Fc Try.prog 13 #[v0] w (fun v w' => v = .bool true ∧ Ext w w') := by
    obtain ⟨A0, c0, rfl, D0⟩ := k0
    exact iswitch_walk w (fun _ => False) (MB.none w) D0
  refine walk.row.mono fun e W' ⟨he, hg⟩ => ?_
  subst he
  exact ⟨_, rfl, post_of_below (pa := p) (pv := []) hW' (fun _ _ _ => (trodAll_cons_mk (shut_bool Try.underlying4 _) trodAll_mk0)) (fun sp hsp => trodAll_stays laidOut hg readAll hA1 (fun x hx => hlt x hx) (fun x hx => hsp x hx)) (fun _ _ => rfl) (by simp)
    hg (ok_one (by kernel_rfl) rfl (okWide_bool_mk Try.underlying4 _))⟩
theorem over : Rows.isciiSwitchRow.holds Try.pinned (OpenSpec.ofChange Rows.isciiSwitchSpec) :=
  OpenClaim.holds_of_wide 13 Try.f13 rfl rfl rfl rfl rfl rfl rfl ⟨rfl, rfl, rfl, rfl, rfl⟩ rfl rfl rfl rfl rfl (by kernel_rfl) Try.func13 (by kernel_rfl)
    (of_decide_eq_true (by kernel_rfl)) (by unfold Func.isWrapper; first | (rw [if_pos (by decide +kernel)]; kernel_rfl) | (rw [if_neg (by decide +kernel)]; exact ⟨rfl, rfl⟩))
    (fun os started H enc _ => lifted os started H enc)
end Go.Proofs.Ytgbajkdomcmblaa.isciiSwitch
namespace Go.Proofs.Ytgbajkdomcmblaa
theorem isciiSwitch_holds : Rows.IsciiSwitchSaid := isciiSwitch.over
end Go.Proofs.Ytgbajkdomcmblaa
