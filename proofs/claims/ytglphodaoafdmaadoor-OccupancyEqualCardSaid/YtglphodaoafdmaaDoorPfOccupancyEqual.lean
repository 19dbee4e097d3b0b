/- coinage/coinagelaw41.OccupancyEqual: for every input the law answers true, and each argument reads afterwards as it read before. Conditions: none beyond the given row's own cells. -/
import Derived.Test.YtglphodaoafdmaaDoorRows
import Derived.WalkKit
import Derived.Test.YtglphodaoafdmaaDoorLwOEqual
import Derived.Test.YtglphodaoafdmaaDoorWf
import Derived.Test.YtglphodaoafdmaaDoorKeep
import Derived.ProofKit
import Derived.Carry
import Derived.Test.YtglphodaoafdmaaDoorCards
import Derived.Test.YtglphodaoafdmaaDoorTie
import Derived.Test.YtglphodaoafdmaaDoorDoor
import Derived.Test.YtglphodaoafdmaaDoorKeep
import Derived.OpenShut
namespace Go.Proofs.YtglphodaoafdmaaDoor.occupancyEqual
open Go.ChangeShapes Go.WideShapes Go.ChangeAt Go.RowKit
set_option linter.unusedVariables false
set_option maxRecDepth 100000 in
theorem lifted (os : Os) (started : os.Started) (H : Type) (enc : TypeId × Value → H) :
    ReturnsInHanded {} Tryd.checked os 10 .any (fun w args => (Rows.occupancyEqualSpec.pre enc Tryd.prog Tryd.f10 [] false w args ∧ laidMetH Tryd.prog laidV w) ∧ sizedMet enc Tryd.prog Tryd.f10 (OpenSpec.ofChange Rows.occupancyEqualSpec) false w args) (Rows.occupancyEqualSpec.post enc Tryd.prog Tryd.f10 false true false false) := by
  refine returnsInHanded_of_change_and (C := Tryd.checked) (X := fun w _ => laidMetH Tryd.prog laidV w) (fun _ _ _ hh h => h.of_heap hh) own started (by kernel_rfl) Tryd.func10
    (ChangeSpec.witness_shaped (enc := enc) (C := Tryd.checked) (os := os) (X := fun w _ => laidMetH Tryd.prog laidV w) false (World.doorLaid Tryd.prog 400 os) #[.int .i64 0, .slice none 0 0] 8 rfl (door_shaped os _) (by kernel_rfl) (by kernel_rfl) (by kernel_rfl) (door_met os _)) ?_
  intro W base args ds gs before hval0 hW hcnd _ hL hsz0
  have hval : ∀ (j : Nat) t v, Tryd.f10.params[j]? = some t → args[j]? = some v → Value.okWide Tryd.prog W .any base t v := hval0
  have hW' := hW
  obtain ⟨p, q, hA0, hV, rfl, hfz, hnd⟩ := hW
  have hA : DataW.TrodAll enc Tryd.prog W 0 (fun _ => true) true Tryd.f10.params.toList args.toList ds p := hA0
  rw [Tryd.params10] at hA hval
  obtain ⟨v0, vs0, d0, ds0, p0, q0, hargs, rfl, rfl, h0, r0⟩ := trodAll_cons hA
  obtain ⟨v1, vs1, d1, ds1, p1, q1, rfl, rfl, rfl, h1, r1⟩ := trodAll_cons r0
  obtain ⟨rfl, rfl, rfl⟩ := trodAll_nil r1
  obtain rfl : args = #[v0, v1] := by cases args; simp_all
  obtain ⟨rfl, rfl⟩ := trodVars_none hV
  have t1 := h1
  have l1 : ∀ x ∈ p1, x.block < W.heap.size := fun x hx => hW'.lt x (by simp [hx])
  obtain ⟨a0, rfl, rfl, rfl, w0⟩ := open_int Tryd.underlying3 (hval 0 3 v0 rfl rfl) h0
  obtain ⟨z1, k1⟩ := opened_kints Tryd.underlying57 Tryd.underlying3 (by kernel_rfl) (hval 1 57 v1 rfl rfl) h1
  clear hA0 hval0
  simp only [List.append_nil] at hW'
  refine (show Calls Tryd.prog 10 #[_, _] W (fun e w' => e = .returned (.bool true) ∧ Ext W w') from law_OEqual (i64_of_wf w0) k1 (tab10_of hL)).mono fun e W' ⟨he, hg⟩ => ?_
  subst he
  refine ⟨_, rfl, _, _, _, [], _, [], hW', (trodAll_cons_mk (shut_bool Tryd.underlying4 _) trodAll_mk0), (trodAll_cons_mk (shut_int Tryd.underlying3 w0) (trodAll_cons_mk (Below.trod (by kernel_rfl) (by kernel_rfl) (of_decide_eq_true (by kernel_rfl)) t1 hg l1) trodAll_mk0)), rfl, hg.frame _, fun h => by cases h⟩

theorem over : Rows.occupancyEqualRow.holds Tryd.pinned (OpenSpec.ofChange Rows.occupancyEqualSpec) :=
  OpenClaim.holds_of_wide 10 Tryd.f10 rfl rfl rfl rfl rfl rfl rfl ⟨rfl, rfl, rfl, rfl, rfl⟩ rfl rfl rfl rfl rfl (by kernel_rfl) Tryd.func10 (by kernel_rfl)
    (of_decide_eq_true (by kernel_rfl)) (by unfold Func.isWrapper; first | (rw [if_pos (by decide +kernel)]; kernel_rfl) | (rw [if_neg (by decide +kernel)]; exact ⟨rfl, rfl⟩))
    (fun os started H enc _ => lifted os started H enc)

/-- ████ THE STATEMENT ████ -/
theorem proved : Rows.OccupancyEqualSaid :=
  over
end Go.Proofs.YtglphodaoafdmaaDoor.occupancyEqual

namespace Go.Proofs.YtglphodaoafdmaaDoor
open Go
/-- ████ THE CARD ████ -/
theorem occupancyEqual_card : Rows.OccupancyEqualCardSaid :=
  Claim7.holds_tied_plain_at .later [] [.data, .data, .data] true (true, "0682cee6c73d44d2a97cfdc2d43bbb57dc212498b2a3340f0f26f5f19be45039") false
    occupancyEqual.proved (fun _ h => by cases h) (by kernel_rfl) (fun _ h => by cases h) occupancyEqual_row_tie rfl ⟨rfl, rfl⟩ (by kernel_rfl) rfl
    (fun f fn hf hfn => by
      obtain rfl : f = 10 := Option.some.inj ((show Tryd.prog.funcNamed "coinage/coinagelaw41.OccupancyEqual" = some 10 by kernel_rfl).symm.trans hf) |>.symm
      obtain rfl : fn = Tryd.f10 := (Option.some.inj (Tryd.func10.symm.trans hfn)).symm
      exact ⟨by kernel_rfl, fun j t ht => by
        rw [Tryd.params10] at ht
        rcases j with _ | _ | j
        · obtain rfl : t = 3 := by simpa using ht.symm
          exact (show Tryd.prog.wantsStandIn 3 = false by kernel_rfl)
        · obtain rfl : t = 57 := by simpa using ht.symm
          exact (show Tryd.prog.wantsStandIn 57 = false by kernel_rfl)
        · simp at ht⟩)
    (by kernel_rfl)
#print axioms occupancyEqual_card
end Go.Proofs.YtglphodaoafdmaaDoor
