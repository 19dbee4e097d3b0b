/- coinage/coinagetop.WholeUnits: for every input the law answers true, and each argument reads afterwards as it read before. Conditions: none beyond the given row's own cells. -/
import Derived.Test.YtbplkienkhinmaaGreatDoorRows
import Derived.WalkKit
import Derived.Test.YtbplkienkhinmaaGreatDoorLwWUnits
import Derived.Test.YtbplkienkhinmaaGreatDoorWf
import Derived.Test.YtbplkienkhinmaaGreatDoorKeep
import Derived.ProofKit
import Derived.Carry
import Derived.Test.YtbplkienkhinmaaGreatDoorCards
import Derived.Test.YtbplkienkhinmaaGreatDoorTie
import Derived.Test.YtbplkienkhinmaaGreatDoorDoor
import Derived.Test.YtbplkienkhinmaaGreatDoorKeep
import Derived.OpenShut
namespace Go.Proofs.YtbplkienkhinmaaGreatDoor.wholeUnits
open Go.ChangeShapes Go.WideShapes Go.ChangeAt Go.RowKit
set_option linter.unusedVariables false
set_option maxRecDepth 100000 in
theorem lifted (os : Os) (started : os.Started) (H : Type) (enc : TypeId × Value → H) :
    ReturnsInHanded {} Tryz.checked os 3 .any (fun w args => (Rows.wholeUnitsSpec.pre enc Tryz.prog Tryz.f3 [] false w args ∧ laidMetH Tryz.prog laidV w) ∧ sizedMet enc Tryz.prog Tryz.f3 (OpenSpec.ofChange Rows.wholeUnitsSpec) false w args) (Rows.wholeUnitsSpec.post enc Tryz.prog Tryz.f3 false true false false) := by
  refine returnsInHanded_of_change_and (C := Tryz.checked) (X := fun w _ => laidMetH Tryz.prog laidV w) (fun _ _ _ hh h => h.of_heap hh) own started (by kernel_rfl) Tryz.func3
    (ChangeSpec.witness_shaped (enc := enc) (C := Tryz.checked) (os := os) (X := fun w _ => laidMetH Tryz.prog laidV w) false (World.doorLaid Tryz.prog 400 os) #[.slice none 0 0, .agg #[.bool false, .slice none 0 0, .slice none 0 0], .agg #[.int .i64 0, .int .i64 0]] 8 rfl (door_shaped os _) (by kernel_rfl) (by kernel_rfl) (by kernel_rfl) (door_met os _)) ?_
  intro W base args ds gs before hval0 hW hcnd _ hL hsz0
  have hval : ∀ (j : Nat) t v, Tryz.f3.params[j]? = some t → args[j]? = some v → Value.okWide Tryz.prog W .any base t v := hval0
  have hW' := hW
  obtain ⟨p, q, hA0, hV, rfl, hfz, hnd⟩ := hW
  have hA : DataW.TrodAll enc Tryz.prog W 0 (fun _ => true) true Tryz.f3.params.toList args.toList ds p := hA0
  rw [Tryz.params3] at hA hval
  obtain ⟨v0, vs0, d0, ds0, p0, q0, hargs, rfl, rfl, h0, r0⟩ := trodAll_cons hA
  obtain ⟨v1, vs1, d1, ds1, p1, q1, rfl, rfl, rfl, h1, r1⟩ := trodAll_cons r0
  obtain ⟨v2, vs2, d2, ds2, p2, q2, rfl, rfl, rfl, h2, r2⟩ := trodAll_cons r1
  obtain ⟨rfl, rfl, rfl⟩ := trodAll_nil r2
  obtain rfl : args = #[v0, v1, v2] := by cases args; simp_all
  obtain ⟨rfl, rfl⟩ := trodVars_none hV
  have t0 := h0
  have l0 : ∀ x ∈ p0, x.block < W.heap.size := fun x hx => hW'.lt x (by simp [hx])
  have t1 := h1
  have l1 : ∀ x ∈ p1, x.block < W.heap.size := fun x hx => hW'.lt x (by simp [hx])
  have t2 := h2
  have l2 : ∀ x ∈ p2, x.block < W.heap.size := fun x hx => hW'.lt x (by simp [hx])
  obtain ⟨z0, k0⟩ := opened_kints Tryz.underlying22 Tryz.underlying3 (by kernel_rfl) (hval 0 22 v0 rfl rfl) h0
  obtain ⟨z1, k1⟩ := opened_frac (hval 1 27 v1 rfl rfl) h1
  obtain ⟨z2, k2⟩ := opened_intx2 (hval 2 28 v2 rfl rfl) h2
  clear hA0 hval0
  simp only [List.append_nil] at hW'
  refine (show Calls Tryz.prog 3 #[_, _, _] W (fun e w' => e = .returned (.bool true) ∧ Ext W w') from law_WUnits k0 k1 k2 (tab10_of hL)).mono fun e W' ⟨he, hg⟩ => ?_
  subst he
  refine ⟨_, rfl, _, _, _, [], _, [], hW', (trodAll_cons_mk (shut_bool Tryz.underlying4 _) trodAll_mk0), (trodAll_cons_mk (Below.trod (by kernel_rfl) (by kernel_rfl) (of_decide_eq_true (by kernel_rfl)) t0 hg l0) (trodAll_cons_mk (Below.trod (by kernel_rfl) (by kernel_rfl) (of_decide_eq_true (by kernel_rfl)) t1 hg l1) (trodAll_cons_mk (Below.trod (by kernel_rfl) (by kernel_rfl) (of_decide_eq_true (by kernel_rfl)) t2 hg l2) trodAll_mk0))), rfl, hg.frame _, fun h => by cases h⟩

theorem over : Rows.wholeUnitsRow.holds Tryz.pinned (OpenSpec.ofChange Rows.wholeUnitsSpec) :=
  OpenClaim.holds_of_wide 3 Tryz.f3 rfl rfl rfl rfl rfl rfl rfl ⟨rfl, rfl, rfl, rfl, rfl⟩ rfl rfl rfl rfl rfl (by kernel_rfl) Tryz.func3 (by kernel_rfl)
    (of_decide_eq_true (by kernel_rfl)) (by unfold Func.isWrapper; first | (rw [if_pos (by decide +kernel)]; kernel_rfl) | (rw [if_neg (by decide +kernel)]; exact ⟨rfl, rfl⟩))
    (fun os started H enc _ => lifted os started H enc)

/-- ████ THE STATEMENT ████ -/
theorem proved : Rows.WholeUnitsSaid :=
  over
end Go.Proofs.YtbplkienkhinmaaGreatDoor.wholeUnits

namespace Go.Proofs.YtbplkienkhinmaaGreatDoor
open Go
/-- ████ THE CARD ████ -/
theorem wholeUnits_card : Rows.WholeUnitsCardSaid :=
  Claim7.holds_tied_plain_at .later [] [.data, .data, .data] true (true, "6b2757ad813e4f3a4a333b103f7e3f32e7ef11d4571aecef8ebe992600de6370") false
    wholeUnits.proved (fun _ h => by cases h) (by kernel_rfl) (fun _ h => by cases h) wholeUnits_row_tie rfl ⟨rfl, rfl⟩ (by kernel_rfl) rfl
    (fun f fn hf hfn => by
      obtain rfl : f = 3 := Option.some.inj ((show Tryz.prog.funcNamed "coinage/coinagetop.WholeUnits" = some 3 by kernel_rfl).symm.trans hf) |>.symm
      obtain rfl : fn = Tryz.f3 := (Option.some.inj (Tryz.func3.symm.trans hfn)).symm
      exact ⟨by kernel_rfl, fun j t ht => by
        rw [Tryz.params3] at ht
        rcases j with _ | _ | _ | j
        · obtain rfl : t = 22 := by simpa using ht.symm
          exact (show Tryz.prog.wantsStandIn 22 = false by kernel_rfl)
        · obtain rfl : t = 27 := by simpa using ht.symm
          exact (show Tryz.prog.wantsStandIn 27 = false by kernel_rfl)
        · obtain rfl : t = 28 := by simpa using ht.symm
          exact (show Tryz.prog.wantsStandIn 28 = false by kernel_rfl)
        · simp at ht⟩)
    (by kernel_rfl)
#print axioms wholeUnits_card
end Go.Proofs.YtbplkienkhinmaaGreatDoor
