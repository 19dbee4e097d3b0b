/- coinage/coinagelaw43.ConfidenceNested: for every input the law answers true, and each argument reads afterwards as it read before. Conditions: none beyond the given row's own cells. -/
import Derived.Test.YtjdpkmngboiemaaDoorRows
import Derived.WalkKit
import Derived.Test.YtjdpkmngboiemaaDoorLwCNested
import Derived.Test.YtjdpkmngboiemaaDoorWf
import Derived.Test.YtjdpkmngboiemaaDoorKeep
import Derived.Test.YtjdpkmngboiemaaDoorOpn
import Derived.ProofKit
import Derived.Carry
import Derived.Test.YtjdpkmngboiemaaDoorCards
import Derived.Test.YtjdpkmngboiemaaDoorTie
import Derived.Test.YtjdpkmngboiemaaDoorDoor
import Derived.Test.YtjdpkmngboiemaaDoorKeep
import Derived.OpenShut
namespace Go.Proofs.YtjdpkmngboiemaaDoor.confidenceNested
open Go.ChangeShapes Go.WideShapes Go.ChangeAt Go.RowKit
set_option linter.unusedVariables false
set_option maxRecDepth 100000 in
theorem lifted (os : Os) (started : os.Started) (H : Type) (enc : TypeId × Value → H) :
    ReturnsInHanded {} Tryd.checked os 5 .any (fun w args => (Rows.confidenceNestedSpec.pre enc Tryd.prog Tryd.f5 [] false w args ∧ laidMetH Tryd.prog laidV w) ∧ sizedMet enc Tryd.prog Tryd.f5 (OpenSpec.ofChange Rows.confidenceNestedSpec) false w args) (Rows.confidenceNestedSpec.post enc Tryd.prog Tryd.f5 false true false false) := by
  refine returnsInHanded_of_change_and (C := Tryd.checked) (X := fun w _ => laidMetH Tryd.prog laidV w) (fun _ _ _ hh h => h.of_heap hh) own started (by kernel_rfl) Tryd.func5
    (ChangeSpec.witness_shaped (enc := enc) (C := Tryd.checked) (os := os) (X := fun w _ => laidMetH Tryd.prog laidV w) false (World.doorLaid Tryd.prog 400 os) #[.agg #[.int .i64 0, .int .i64 0, .int .i64 0], .agg #[.bool false, .slice none 0 0, .slice none 0 0], .int .i64 0] 8 rfl (door_shaped os _) (by kernel_rfl) (by kernel_rfl) (by kernel_rfl) (door_met os _)) ?_
  intro W base args ds gs before hval0 hW hcnd _ hL hsz0
  have hval : ∀ (j : Nat) t v, Tryd.f5.params[j]? = some t → args[j]? = some v → Value.okWide Tryd.prog W .any base t v := hval0
  have hW' := hW
  obtain ⟨p, q, hA0, hV, rfl, hfz, hnd⟩ := hW
  have hA : DataW.TrodAll enc Tryd.prog W 0 (fun _ => true) true Tryd.f5.params.toList args.toList ds p := hA0
  rw [Tryd.params5] at hA hval
  obtain ⟨v0, vs0, d0, ds0, p0, q0, hargs, rfl, rfl, h0, r0⟩ := trodAll_cons hA
  obtain ⟨v1, vs1, d1, ds1, p1, q1, rfl, rfl, rfl, h1, r1⟩ := trodAll_cons r0
  obtain ⟨v2, vs2, d2, ds2, p2, q2, rfl, rfl, rfl, h2, r2⟩ := trodAll_cons r1
  obtain ⟨rfl, rfl, rfl⟩ := trodAll_nil r2
  obtain rfl : args = #[v0, v1, v2] := by cases args; simp_all
  obtain ⟨rfl, rfl⟩ := trodVars_none hV
  have t0 := h0
  have l0 : ∀ x ∈ p0, x.block < W.heap.size := fun x hx => hW'.lt x (by simp [hx])
  have t1 := h1
  have l1 : ∀ x ∈ p1, x.block < W.heap.size := fun x hx => hW'.lt x (by simp [hx])
  obtain ⟨z0, k0⟩ := opened_int3 Tryd.underlying42 (by kernel_rfl) (by kernel_rfl) Tryd.underlying3 rfl rfl rfl (hval 0 42 v0 rfl rfl) h0
  obtain ⟨z1, k1⟩ := opened_frac (hval 1 27 v1 rfl rfl) h1
  obtain ⟨a2, rfl, rfl, rfl, w2⟩ := open_int Tryd.underlying3 (hval 2 3 v2 rfl rfl) h2
  clear hA0 hval0
  simp only [List.append_nil] at hW'
  refine (show Calls Tryd.prog 5 #[_, _, _] W (fun e w' => e = .returned (.bool true) ∧ Ext W w') from law_CNested k0 k1 (i64_of_wf w2) (tab10_of hL)).mono fun e W' ⟨he, hg⟩ => ?_
  subst he
  refine ⟨_, rfl, _, _, _, [], _, [], hW', (trodAll_cons_mk (shut_bool Tryd.underlying4 _) trodAll_mk0), (trodAll_cons_mk (Below.trod (by kernel_rfl) (by kernel_rfl) (of_decide_eq_true (by kernel_rfl)) t0 hg l0) (trodAll_cons_mk (Below.trod (by kernel_rfl) (by kernel_rfl) (of_decide_eq_true (by kernel_rfl)) t1 hg l1) (trodAll_cons_mk (shut_int Tryd.underlying3 w2) trodAll_mk0))), rfl, hg.frame _, fun h => by cases h⟩

theorem over : Rows.confidenceNestedRow.holds Tryd.pinned (OpenSpec.ofChange Rows.confidenceNestedSpec) :=
  OpenClaim.holds_of_wide 5 Tryd.f5 rfl rfl rfl rfl rfl rfl rfl ⟨rfl, rfl, rfl, rfl, rfl⟩ rfl rfl rfl rfl rfl (by kernel_rfl) Tryd.func5 (by kernel_rfl)
    (of_decide_eq_true (by kernel_rfl)) (by unfold Func.isWrapper; first | (rw [if_pos (by decide +kernel)]; kernel_rfl) | (rw [if_neg (by decide +kernel)]; exact ⟨rfl, rfl⟩))
    (fun os started H enc _ => lifted os started H enc)

/-- ████ THE STATEMENT ████ -/
theorem proved : Rows.ConfidenceNestedSaid :=
  over
end Go.Proofs.YtjdpkmngboiemaaDoor.confidenceNested

namespace Go.Proofs.YtjdpkmngboiemaaDoor
open Go
/-- ████ THE CARD ████ -/
theorem confidenceNested_card : Rows.ConfidenceNestedCardSaid :=
  Claim7.holds_tied_plain_at .later [] [.data, .data, .data] true (true, "5555cfca6f3261688d80aae848b5c626706e00681b432f600a6715727a7437aa") false
    confidenceNested.proved (fun _ h => by cases h) (by kernel_rfl) (fun _ h => by cases h) confidenceNested_row_tie rfl ⟨rfl, rfl⟩ (by kernel_rfl) rfl
    (fun f fn hf hfn => by
      obtain rfl : f = 5 := Option.some.inj ((show Tryd.prog.funcNamed "coinage/coinagelaw43.ConfidenceNested" = some 5 by kernel_rfl).symm.trans hf) |>.symm
      obtain rfl : fn = Tryd.f5 := (Option.some.inj (Tryd.func5.symm.trans hfn)).symm
      exact ⟨by kernel_rfl, fun j t ht => by
        rw [Tryd.params5] at ht
        rcases j with _ | _ | _ | j
        · obtain rfl : t = 42 := by simpa using ht.symm
          exact (show Tryd.prog.wantsStandIn 42 = false by kernel_rfl)
        · obtain rfl : t = 27 := by simpa using ht.symm
          exact (show Tryd.prog.wantsStandIn 27 = false by kernel_rfl)
        · obtain rfl : t = 3 := by simpa using ht.symm
          exact (show Tryd.prog.wantsStandIn 3 = false by kernel_rfl)
        · simp at ht⟩)
    (by kernel_rfl)
#print axioms confidenceNested_card
end Go.Proofs.YtjdpkmngboiemaaDoor
