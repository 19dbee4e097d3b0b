/- The estimator's laws: both implementations at once. -/
import Derived.Test.YtkjcbfaimonaoaaDoorEstRefF
import Derived.Test.YtkjcbfaimonaoaaDoorEstW
import Derived.Test.YtkjcbfaimonaoaaDoorBfrac
import Derived.Test.YtkjcbfaimonaoaaDoorKeep
set_option linter.unusedVariables false
set_option linter.unusedSimpArgs false
set_option maxRecDepth 100000
namespace Go.Proofs.YtkjcbfaimonaoaaDoor
open Go.RowKit Num

/-- What a function that answers (Fraction, Errno) gives, whichever way. -/
def GivesP (w : World) (b : Bool) (n d : Nat) (er : Int) (e : Ending) (w' : World) : Prop :=
  ∃ A k c A' k' c', e = .returned (.tuple #[.agg #[.bool b, .slice A k c, .slice A' k' c'], .int .i64 er]) ∧ CanV w' (.slice A k c) n ∧ CanV w' (.slice A' k' c') d ∧ Ext w w' ∧ New w.heap.size (.slice A k c) ∧ New w.heap.size (.slice A' k' c')
theorem GivesFE.p {w w' : World} {q : Rat} {e : Ending} (h : GivesFE w q e w') : GivesP w (decide (q < 0)) q.num.natAbs q.den 0 e w' := by
  obtain ⟨b, A, k, c, A', k', c', rfl, ⟨rfl, h1, h2⟩, hE, hn, hn'⟩ := h
  exact ⟨A, k, c, A', k', c', rfl, h1, h2, hE, hn, hn'⟩
theorem GivesFN.p {w w' : World} {er : Int} {e : Ending} (h : GivesFN w er e w') : GivesP w false 0 0 er e w' := by
  obtain ⟨rfl, hE⟩ := h
  exact ⟨none, 0, 0, none, 0, 0, rfl, CanV.nil_ _, CanV.nil_ _, hE, New.nil_ _, New.nil_ _⟩

theorem freq_any (zs : List Int) : ∃ l er, ∀ x w, IntsV w x zs → Calls Tryd.prog 14 #[x] w (GivesI w l er) ∧ Calls Tryd.prog 15 #[x] w (GivesI w l er) := by
  by_cases hs : Samp zs
  · exact ⟨_, _, fun x w hx => ⟨efreq_ok hx hs, rfreq_ok hx hs⟩⟩
  · exact ⟨_, _, fun x w hx => ⟨efreq_no hx hs, rfreq_no hx hs⟩⟩
theorem index_any (zs : List Int) : ∃ b n d er, ∀ x w, IntsV w x zs → Calls Tryd.prog 16 #[x] w (GivesP w b n d er) ∧ Calls Tryd.prog 17 #[x] w (GivesP w b n d er) := by
  by_cases hs : Samp zs
  · exact ⟨_, _, _, _, fun x w hx => ⟨(eindex_ok hx hs).mono fun _ _ h => h.p, (rindex_ok hx hs).mono fun _ _ h => h.p⟩⟩
  · exact ⟨_, _, _, _, fun x w hx => ⟨(eindex_no hx hs).mono fun _ _ h => h.p, (rindex_no hx hs).mono fun _ _ h => h.p⟩⟩

theorem few_t {A : Option Addr} {n c : Nat} {w : World} (h : n ≤ 80) : Calls Tryd.prog 13 #[.slice A n c] w (fun e w' => e = .returned (.bool true) ∧ w' = w) := by
  go_enter Tryd.func13, Tryd.ntmps13
  go_wp2
  go_ret
  exact ⟨by simp; omega, rfl⟩
theorem few_f {A : Option Addr} {n c : Nat} {w : World} (h : ¬ n ≤ 80) : Calls Tryd.prog 13 #[.slice A n c] w (fun e w' => e = .returned (.bool false) ∧ w' = w) := by
  go_enter Tryd.func13, Tryd.ntmps13
  go_wp2
  go_ret
  exact ⟨by simp; omega, rfl⟩

end Go.Proofs.YtkjcbfaimonaoaaDoor
