/- coinage/coinagelaw03.CountingUnranks: for every input the law answers true, and each argument reads afterwards as it read before. Conditions: none beyond the given row's own cells. -/
import Derived.Test.YthikgbgmnlmmlaaDoorRows
import Derived.WalkKit
import Derived.Test.YthikgbgmnlmmlaaDoorLwUnranks
import Derived.ProofKit
import Derived.Carry
import Derived.Test.YthikgbgmnlmmlaaDoorCards
import Derived.Test.YthikgbgmnlmmlaaDoorTie
import Derived.Test.YthikgbgmnlmmlaaDoorDoor
import Derived.Test.YthikgbgmnlmmlaaDoorKeep
import Derived.OpenShut
namespace Go.Proofs.YthikgbgmnlmmlaaDoor.countingUnranks
open Go.ChangeShapes Go.WideShapes Go.ChangeAt Go.RowKit
set_option linter.unusedVariables false
set_option maxRecDepth 100000 in
theorem lifted (os : Os) (started : os.Started) (H : Type) (enc : TypeId × Value → H) :
    ReturnsInHanded {} Tryd.checked os 9 .any (fun w args => (Rows.countingUnranksSpec.pre enc Tryd.prog Tryd.f9 [] false w args ∧ laidMetH Tryd.prog laidV w) ∧ sizedMet enc Tryd.prog Tryd.f9 (OpenSpec.ofChange Rows.countingUnranksSpec) false w args) (Rows.countingUnranksSpec.post enc Tryd.prog Tryd.f9 false true false false) := by
  refine returnsInHanded_of_change_and (C := Tryd.checked) (X := fun w _ => laidMetH Tryd.prog laidV w) (fun _ _ _ hh h => h.of_heap hh) own started (by kernel_rfl) Tryd.func9
    (ChangeSpec.witness_shaped (enc := enc) (C := Tryd.checked) (os := os) (X := fun w _ => laidMetH Tryd.prog laidV w) false (World.doorLaid Tryd.prog 400 os) #[.int .i64 0, .int .i64 0, .agg #[.slice none 0 0]] 8 rfl (door_shaped os _) (by kernel_rfl) (by kernel_rfl) (by kernel_rfl) (door_met os _)) ?_
  intro W base args ds gs before hval0 hW hcnd _ hL hsz0
  have hval : ∀ (j : Nat) t v, Tryd.f9.params[j]? = some t → args[j]? = some v → Value.okWide Tryd.prog W .any base t v := hval0
  have hW' := hW
  obtain ⟨p, q, hA0, hV, rfl, hfz, hnd⟩ := hW
  have hA : DataW.TrodAll enc Tryd.prog W 0 (fun _ => true) true Tryd.f9.params.toList args.toList ds p := hA0
  rw [Tryd.params9] at hA hval
  obtain ⟨v0, vs0, d0, ds0, p0, q0, hargs, rfl, rfl, h0, r0⟩ := trodAll_cons hA
  obtain ⟨v1, vs1, d1, ds1, p1, q1, rfl, rfl, rfl, h1, r1⟩ := trodAll_cons r0
  obtain ⟨v2, vs2, d2, ds2, p2, q2, rfl, rfl, rfl, h2, r2⟩ := trodAll_cons r1
  obtain ⟨rfl, rfl, rfl⟩ := trodAll_nil r2
  obtain rfl : args = #[v0, v1, v2] := by cases args; simp_all
  obtain ⟨rfl, rfl⟩ := trodVars_none hV
  have t2 := h2
  have l2 : ∀ x ∈ p2, x.block < W.heap.size := fun x hx => hW'.lt x (by simp [hx])
  obtain ⟨a0, rfl, rfl, rfl, w0⟩ := open_int Tryd.underlying3 (hval 0 3 v0 rfl rfl) h0
  obtain ⟨a1, rfl, rfl, rfl, w1⟩ := open_int Tryd.underlying3 (hval 1 3 v1 rfl rfl) h1
  obtain ⟨z2, k2⟩ := opened_nat (hval 2 25 v2 rfl rfl) h2
  clear hA0 hval0
  simp only [List.append_nil] at hW'
  refine (show Calls Tryd.prog 9 #[_, _, _] W (fun e w' => e = .returned (.bool true) ∧ Ext W w') from law_CountingUnranks k2).mono fun e W' ⟨he, hg⟩ => ?_
  subst he
  refine ⟨_, rfl, _, _, _, [], _, [], hW', (trodAll_cons_mk (shut_bool Tryd.underlying4 _) trodAll_mk0), (trodAll_cons_mk (shut_int Tryd.underlying3 w0) (trodAll_cons_mk (shut_int Tryd.underlying3 w1) (trodAll_cons_mk (Below.trod (by kernel_rfl) (by kernel_rfl) (of_decide_eq_true (by kernel_rfl)) t2 hg l2) trodAll_mk0))), rfl, hg.frame _, fun h => by cases h⟩

theorem over : Rows.countingUnranksRow.holds Tryd.pinned (OpenSpec.ofChange Rows.countingUnranksSpec) :=
  OpenClaim.holds_of_wide 9 Tryd.f9 rfl rfl rfl rfl rfl rfl rfl ⟨rfl, rfl, rfl, rfl, rfl⟩ rfl rfl rfl rfl rfl (by kernel_rfl) Tryd.func9 (by kernel_rfl)
    (of_decide_eq_true (by kernel_rfl)) (by unfold Func.isWrapper; first | (rw [if_pos (by decide +kernel)]; kernel_rfl) | (rw [if_neg (by decide +kernel)]; exact ⟨rfl, rfl⟩))
    (fun os started H enc _ => lifted os started H enc)

/-- ████ THE STATEMENT ████ -/
theorem proved : Rows.CountingUnranksSaid :=
  over
end Go.Proofs.YthikgbgmnlmmlaaDoor.countingUnranks

namespace Go.Proofs.YthikgbgmnlmmlaaDoor
open Go
/-- ████ THE CARD ████ -/
theorem countingUnranks_card : Rows.CountingUnranksCardSaid :=
  Claim7.holds_tied_plain_at .later [] [.data, .data, .data] true (true, "2917aec40b82a8801054beae4220d54ab8b479d3448c1e50be920f7653fdf4d4") false
    countingUnranks.proved (fun _ h => by cases h) (by kernel_rfl) (fun _ h => by cases h) countingUnranks_row_tie rfl ⟨rfl, rfl⟩ (by kernel_rfl) rfl
    (fun f fn hf hfn => by
      obtain rfl : f = 9 := Option.some.inj ((show Tryd.prog.funcNamed "coinage/coinagelaw03.CountingUnranks" = some 9 by kernel_rfl).symm.trans hf) |>.symm
      obtain rfl : fn = Tryd.f9 := (Option.some.inj (Tryd.func9.symm.trans hfn)).symm
      exact ⟨by kernel_rfl, fun j t ht => by
        rw [Tryd.params9] at ht
        rcases j with _ | _ | _ | j
        · obtain rfl : t = 3 := by simpa using ht.symm
          exact (show Tryd.prog.wantsStandIn 3 = false by kernel_rfl)
        · obtain rfl : t = 3 := by simpa using ht.symm
          exact (show Tryd.prog.wantsStandIn 3 = false by kernel_rfl)
        · obtain rfl : t = 25 := by simpa using ht.symm
          exact (show Tryd.prog.wantsStandIn 25 = false by kernel_rfl)
        · simp at ht⟩)
    (by kernel_rfl)
#print axioms countingUnranks_card
end Go.Proofs.YthikgbgmnlmmlaaDoor
