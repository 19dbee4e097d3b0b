/- coinage/coinagelaw43.ConfidenceSets: for every input the law answers true, and each argument reads afterwards as it read before. Conditions: none beyond the given row's own cells. -/
import Derived.Test.YtjdpkmngboiemaaGreatDoorRows
import Derived.WalkKit
import Derived.Test.YtjdpkmngboiemaaGreatDoorLwCSets
import Derived.Test.YtjdpkmngboiemaaGreatDoorWf
import Derived.Test.YtjdpkmngboiemaaGreatDoorKeep
import Derived.Test.YtjdpkmngboiemaaGreatDoorOpn
import Derived.ProofKit
import Derived.Carry
import Derived.Test.YtjdpkmngboiemaaGreatDoorCards
import Derived.Test.YtjdpkmngboiemaaGreatDoorTie
import Derived.Test.YtjdpkmngboiemaaGreatDoorDoor
import Derived.Test.YtjdpkmngboiemaaGreatDoorKeep
import Derived.OpenShut
namespace Go.Proofs.YtjdpkmngboiemaaGreatDoor.confidenceSets
open Go.ChangeShapes Go.WideShapes Go.ChangeAt Go.RowKit
set_option linter.unusedVariables false
set_option maxRecDepth 100000 in
theorem lifted (os : Os) (started : os.Started) (H : Type) (enc : TypeId × Value → H) :
    ReturnsInHanded {} Tryz.checked os 3 .any (fun w args => (Rows.confidenceSetsSpec.pre enc Tryz.prog Tryz.f3 [] false w args ∧ laidMetH Tryz.prog laidV w) ∧ sizedMet enc Tryz.prog Tryz.f3 (OpenSpec.ofChange Rows.confidenceSetsSpec) false w args) (Rows.confidenceSetsSpec.post enc Tryz.prog Tryz.f3 false true false false) := by
  refine returnsInHanded_of_change_and (C := Tryz.checked) (X := fun w _ => laidMetH Tryz.prog laidV w) (fun _ _ _ hh h => h.of_heap hh) own started (by kernel_rfl) Tryz.func3
    (ChangeSpec.witness_shaped (enc := enc) (C := Tryz.checked) (os := os) (X := fun w _ => laidMetH Tryz.prog laidV w) false (World.doorLaid Tryz.prog 400 os) #[.agg #[.int .i64 0, .int .i64 0, .int .i64 0], .agg #[.bool false, .slice none 0 0, .slice none 0 0]] 8 rfl (door_shaped os _) (by kernel_rfl) (by kernel_rfl) (by kernel_rfl) (door_met os _)) ?_
  intro W base args ds gs before hval0 hW hcnd _ hL hsz0
  have hval : ∀ (j : Nat) t v, Tryz.f3.params[j]? = some t → args[j]? = some v → Value.okWide Tryz.prog W .any base t v := hval0
  have hW' := hW
  obtain ⟨p, q, hA0, hV, rfl, hfz, hnd⟩ := hW
  have hA : DataW.TrodAll enc Tryz.prog W 0 (fun _ => true) true Tryz.f3.params.toList args.toList ds p := hA0
  rw [Tryz.params3] at hA hval
  obtain ⟨v0, vs0, d0, ds0, p0, q0, hargs, rfl, rfl, h0, r0⟩ := trodAll_cons hA
  obtain ⟨v1, vs1, d1, ds1, p1, q1, rfl, rfl, rfl, h1, r1⟩ := trodAll_cons r0
  obtain ⟨rfl, rfl, rfl⟩ := trodAll_nil r1
  obtain rfl : args = #[v0, v1] := by cases args; simp_all
  obtain ⟨rfl, rfl⟩ := trodVars_none hV
  have t0 := h0
  have l0 : ∀ x ∈ p0, x.block < W.heap.size := fun x hx => hW'.lt x (by simp [hx])
  have t1 := h1
  have l1 : ∀ x ∈ p1, x.block < W.heap.size := fun x hx => hW'.lt x (by simp [hx])
  obtain ⟨z0, k0⟩ := opened_int3 Tryz.underlying23 (by kernel_rfl) (by kernel_rfl) Tryz.underlying3 rfl rfl rfl (hval 0 23 v0 rfl rfl) h0
  obtain ⟨z1, k1⟩ := opened_frac (hval 1 28 v1 rfl rfl) h1
  clear hA0 hval0
  simp only [List.append_nil] at hW'
  refine (show Calls Tryz.prog 3 #[_, _] W (fun e w' => e = .returned (.bool true) ∧ Ext W w') from law_CSets k0 k1 (tab10_of hL)).mono fun e W' ⟨he, hg⟩ => ?_
  subst he
  refine ⟨_, rfl, _, _, _, [], _, [], hW', (trodAll_cons_mk (shut_bool Tryz.underlying4 _) trodAll_mk0), (trodAll_cons_mk (Below.trod (by kernel_rfl) (by kernel_rfl) (of_decide_eq_true (by kernel_rfl)) t0 hg l0) (trodAll_cons_mk (Below.trod (by kernel_rfl) (by kernel_rfl) (of_decide_eq_true (by kernel_rfl)) t1 hg l1) trodAll_mk0)), rfl, hg.frame _, fun h => by cases h⟩

theorem over : Rows.confidenceSetsRow.holds Tryz.pinned (OpenSpec.ofChange Rows.confidenceSetsSpec) :=
  OpenClaim.holds_of_wide 3 Tryz.f3 rfl rfl rfl rfl rfl rfl rfl ⟨rfl, rfl, rfl, rfl, rfl⟩ rfl rfl rfl rfl rfl (by kernel_rfl) Tryz.func3 (by kernel_rfl)
    (of_decide_eq_true (by kernel_rfl)) (by unfold Func.isWrapper; first | (rw [if_pos (by decide +kernel)]; kernel_rfl) | (rw [if_neg (by decide +kernel)]; exact ⟨rfl, rfl⟩))
    (fun os started H enc _ => lifted os started H enc)

/-- ████ THE STATEMENT ████ -/
theorem proved : Rows.ConfidenceSetsSaid :=
  over
end Go.Proofs.YtjdpkmngboiemaaGreatDoor.confidenceSets

namespace Go.Proofs.YtjdpkmngboiemaaGreatDoor
open Go
/-- ████ THE CARD ████ -/
theorem confidenceSets_card : Rows.ConfidenceSetsCardSaid :=
  Claim7.holds_tied_plain_at .later [] [.data, .data, .data] true (true, "a9658898a06e82b9a1df22f0125c696cc0bc61ddbffe735910336bc690976f6f") false
    confidenceSets.proved (fun _ h => by cases h) (by kernel_rfl) (fun _ h => by cases h) confidenceSets_row_tie rfl ⟨rfl, rfl⟩ (by kernel_rfl) rfl
    (fun f fn hf hfn => by
      obtain rfl : f = 3 := Option.some.inj ((show Tryz.prog.funcNamed "coinage/coinagelaw43.ConfidenceSets" = some 3 by kernel_rfl).symm.trans hf) |>.symm
      obtain rfl : fn = Tryz.f3 := (Option.some.inj (Tryz.func3.symm.trans hfn)).symm
      exact ⟨by kernel_rfl, fun j t ht => by
        rw [Tryz.params3] at ht
        rcases j with _ | _ | j
        · obtain rfl : t = 23 := by simpa using ht.symm
          exact (show Tryz.prog.wantsStandIn 23 = false by kernel_rfl)
        · obtain rfl : t = 28 := by simpa using ht.symm
          exact (show Tryz.prog.wantsStandIn 28 = false by kernel_rfl)
        · simp at ht⟩)
    (by kernel_rfl)
#print axioms confidenceSets_card
end Go.Proofs.YtjdpkmngboiemaaGreatDoor
