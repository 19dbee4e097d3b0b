/- coinage/coinagelaw39.MetalMixes: for every input the law answers true, and each argument reads afterwards as it read before. Conditions: none beyond the given row's own cells. -/
import Derived.Test.YtmfigiifflljpaaRows
import Derived.WalkKit
import Derived.Test.YtmfigiifflljpaaLwMMixes
import Derived.Test.YtmfigiifflljpaaWf
import Derived.Test.YtmfigiifflljpaaKeep
import Derived.Test.YtmfigiifflljpaaMetI
import Derived.ProofKit
import Derived.Carry
import Derived.Test.YtmfigiifflljpaaKeep
import Derived.OpenShut
namespace Go.Proofs.Ytmfigiifflljpaa.metalMixes
open Go.ChangeShapes Go.WideShapes Go.ChangeAt Go.RowKit
set_option linter.unusedVariables false
theorem own : ownKnob Try.prog.godebug = none := by kernel_rfl
set_option maxRecDepth 100000 in
theorem lifted (os : Os) (started : os.Started) (H : Type) (enc : TypeId × Value → H) :
    ReturnsInHanded {} Try.checked os 10 .any (Rows.metalMixesSpec.pre6 enc Try.prog Try.f10 Rows.metalMixesRow.domain false) (Rows.metalMixesSpec.post enc Try.prog Try.f10 false true false false) := by
  refine returnsInHanded_of_change (C := Try.checked) own started (by kernel_rfl) Try.func10
    (ChangeSpec.witness6 (enc := enc) (C := Try.checked) false ⟨#[], #[.slice none 0 0, .slice none 0 0], []⟩ 8 (by kernel_rfl) (by kernel_rfl) (by kernel_rfl) (by kernel_rfl)) ?_
  intro W base args ds gs before hval0 hW hcnd _
  have hval : ∀ (j : Nat) t v, Try.f10.params[j]? = some t → args[j]? = some v → Value.okWide Try.prog W .any base t v := hval0
  have hW' := hW
  obtain ⟨p, q, hA0, hV, rfl, hfz, hnd⟩ := hW
  have hA : DataW.TrodAll enc Try.prog W 0 (fun _ => true) true Try.f10.params.toList args.toList ds p := hA0
  rw [Try.params10] at hA hval
  obtain ⟨v0, vs0, d0, ds0, p0, q0, hargs, rfl, rfl, h0, r0⟩ := trodAll_cons hA
  obtain ⟨v1, vs1, d1, ds1, p1, q1, rfl, rfl, rfl, h1, r1⟩ := trodAll_cons r0
  obtain ⟨rfl, rfl, rfl⟩ := trodAll_nil r1
  obtain rfl : args = #[v0, v1] := by cases args; simp_all
  obtain ⟨rfl, rfl⟩ := trodVars_none hV
  have t0 := h0
  have l0 : ∀ x ∈ p0, x.block < W.heap.size := fun x hx => hW'.lt x (by simp [hx])
  have t1 := h1
  have l1 : ∀ x ∈ p1, x.block < W.heap.size := fun x hx => hW'.lt x (by simp [hx])
  obtain ⟨z0, k0⟩ := opened_mat (hval 0 22 v0 rfl rfl) h0
  obtain ⟨z1, k1⟩ := opened_fracs (hval 1 39 v1 rfl rfl) h1
  clear hA0 hval0
  simp only [List.append_nil] at hW'
  refine (show Calls Try.prog 10 #[_, _] W (fun e w' => e = .returned (.bool true) ∧ Ext W w') from law_MMixes k0 k1).mono fun e W' ⟨he, hg⟩ => ?_
  subst he
  refine ⟨_, rfl, _, _, _, [], _, [], hW', (trodAll_cons_mk (shut_bool Try.underlying4 _) trodAll_mk0), (trodAll_cons_mk (Below.trod (by kernel_rfl) (by kernel_rfl) (of_decide_eq_true (by kernel_rfl)) t0 hg l0) (trodAll_cons_mk (Below.trod (by kernel_rfl) (by kernel_rfl) (of_decide_eq_true (by kernel_rfl)) t1 hg l1) trodAll_mk0)), rfl, hg.frame _, fun h => by cases h⟩

theorem over : Rows.metalMixesRow.holds Try.pinned (OpenSpec.ofChange Rows.metalMixesSpec) :=
  OpenClaim.holds_of_wide 10 Try.f10 rfl rfl rfl rfl rfl rfl rfl ⟨rfl, rfl, rfl, rfl, rfl⟩ rfl rfl rfl rfl rfl (by kernel_rfl) Try.func10 (by kernel_rfl)
    (of_decide_eq_true (by kernel_rfl)) (by unfold Func.isWrapper; first | (rw [if_pos (by decide +kernel)]; kernel_rfl) | (rw [if_neg (by decide +kernel)]; exact ⟨rfl, rfl⟩))
    (fun os started H enc _ => lifted os started H enc)

/-- ████ THE STATEMENT ████ -/
theorem proved : Rows.MetalMixesSaid :=
  over
end Go.Proofs.Ytmfigiifflljpaa.metalMixes

namespace Go.Proofs.Ytmfigiifflljpaa
theorem metalMixes_said : Rows.MetalMixesSaid := metalMixes.proved
#print axioms metalMixes_said
end Go.Proofs.Ytmfigiifflljpaa
