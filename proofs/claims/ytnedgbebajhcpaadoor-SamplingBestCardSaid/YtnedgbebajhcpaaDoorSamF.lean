/- sampling: Split. -/
import Derived.Test.YtnedgbebajhcpaaDoorSamE
set_option linter.unusedVariables false
set_option linter.unusedSimpArgs false
set_option maxRecDepth 100000
namespace Go.Proofs.YtnedgbebajhcpaaDoor
open Go.RowKit Num

/-- A list of numbers, somewhere, and an error. -/
def GivesIL (w : World) (zs : List Int) (er : Int) (e : Ending) (w' : World) : Prop := ∃ A c, e = .returned (.tuple #[.slice A zs.length c, .int .i64 er]) ∧ IntsV w' (.slice A zs.length c) zs ∧ Ext w w'
theorem CanV.lt_one {w : World} {v : Value} (h : CanV w v 1) : ∀ g, v.ownBlock = some g → g < w.heap.size := by
  obtain ⟨A, cap, rfl, _, _, hr⟩ := h
  intro g hg
  have hp : 0 < (limbsOf 1).length := by rw [limbsOf_one (by omega) (by omega)]; simp
  obtain ⟨ad, e, hb, _⟩ := hr.2 hp
  subst e
  have : ad.block = g := by simpa [Value.ownBlock] using hg
  omega

set_option maxHeartbeats 8000000 in
theorem split_ok {D : List Nat} {m : Nat} {A : Option Addr} {c : Nat} {w : World} (hD : PlanN D) (hm : m ≤ 12) (hv : IntsV w (.slice A (natsS D).length c) (natsS D)) (ht : Tab10 w) :
    Calls Tryd.prog 16 #[.slice A (natsS D).length c, .int .i64 m] w (GivesIL w (natsS (bestL D m).1) 0) := by
  have HV := Lib.hid (fun (w' : World) (h : Ext w w') => hv.below h)
  have HPI := Lib.hid (planN_in hD)
  have HTRY := Lib.hid (fun (Db Tb Y X : Nat) (G : TryG w Db Tb Y X) => try_all hD hv G ht (D.length - 1))
  have HDL := Lib.hid hD.1
  have HBV := Lib.hid (best_visit (D := D) (m := m))
  have HD := Lib.hid hD
  have hmf : ∀ (fn : Fn) (first cap : Array Value) (w : World), (Instr.makeFunc fn first cap).run Tryd.prog w = .ok (.func fn first cap) w := fun _ _ _ _ => rfl
  have hst : ∀ (a : Addr) (f : Fn) (x y : Array Value) (w : World) (n : Mode), (store a (.func f x y) n).run Tryd.prog w = stored Tryd.prog w a (.func f x y) n := fun a f x y w n => run_store Tryd.prog w a _ n rfl
  clear hD hv ht
  go_enter Tryd.func16, Tryd.ntmps16
  go_upto_region 1 with (fail)
  have q0 : (w.alloc (.cells #[.slice A (natsS D).length c] 36)).cell? ⟨w.heap.size, 0, none⟩ = some (.slice A (natsS D).length c) := by simp [go_sem]
  have x0 : Ext w (w.alloc (.cells #[.slice A (natsS D).length c] 36)) := ext_alloc (Below.refl _ _) _
  have hs0 : w.heap.size + 1 = (w.alloc (.cells #[.slice A (natsS D).length c] 36)).heap.size := by simp
  generalize w.alloc (.cells #[.slice A (natsS D).length c] 36) = W0 at *
  have HQ0 := Lib.hid (fun (w' : World) (h : Ext W0 w') => (h.cell (p := ⟨w.heap.size, 0, none⟩) (World.block_lt_of_cell? _ _ q0)).trans q0)
  go_upto_region 5 with (first
    | (go_at_call 40; (with_reducible refine (splan_t (HV.out _ x0) HPI.out.1 HPI.out.2).mono ?_); rintro e w1 ⟨rfl, hw1⟩; obtain rfl : W0 = w1 := hw1.symm)
    | (go_at_call 32; (with_reducible refine (swithin_t (n := (m : Int)) (by omega) (by omega)).mono ?_); rintro e w1 ⟨rfl, hw1⟩; obtain rfl : W0 = w1 := hw1.symm))
  clear q0
  go_upto_region 6 with (fail)
  have q5 : (W0.alloc (.cells #[.slice none 0 0] 36)).cell? ⟨W0.heap.size, 0, none⟩ = some (.slice none 0 0) := by simp [go_sem]
  have g5 : (W0.alloc (.cells #[.slice none 0 0] 36)).frozen? ⟨W0.heap.size, 0, none⟩ = false := by simp [go_sem]
  have x5 : Ext W0 (W0.alloc (.cells #[.slice none 0 0] 36)) := ext_alloc (Below.refl _ _) _
  have hs5 : W0.heap.size + 1 = (W0.alloc (.cells #[.slice none 0 0] 36)).heap.size := by simp
  generalize W0.alloc (.cells #[.slice none 0 0] 36) = W5 at *
  have HQ5 := Lib.hid (fun (w' : World) (h : Ext W5 w') => (⟨(h.cell (p := ⟨W0.heap.size, 0, none⟩) (World.block_lt_of_cell? _ _ q5)).trans q5, (h.frozen (p := ⟨W0.heap.size, 0, none⟩) (World.block_lt_of_cell? _ _ q5)).trans g5⟩ : w'.cell? ⟨W0.heap.size, 0, none⟩ = some (.slice none 0 0) ∧ w'.frozen? ⟨W0.heap.size, 0, none⟩ = false))
  clear q5 g5
  go_wp2_with fail
  refine (fof_n (n := -1) (d := 1) (by omega) (by omega)).mono ?_
  rintro e w6 ⟨b6, A6, k6, c6, A6', k6', c6', rfl, h6, y6, n6, n6'⟩
  have h6 : FracV w6 b6 (.slice A6 k6 c6) (.slice A6' k6' c6') (-1) := by
    have e : ((-1 : Int) : Rat) / ((1 : Int) : Rat) = -1 := by decide +kernel
    rw [e] at h6
    exact h6
  have hy6 := y6.size
  have a6 : ∀ g, (Value.slice A6 k6 c6).ownBlock = some g → g < w6.heap.size := CanV.lt_one h6.2.1
  have a6' : ∀ g, (Value.slice A6' k6' c6').ownBlock = some g → g < w6.heap.size := CanV.lt_one h6.2.2
  go_upto_region 7 with (fail)
  have hG6 := FBox.new w6 (.bool b6) (.slice A6 k6 c6) (.slice A6' k6' c6') 28
  have Y6 : Ext W5 (w6.alloc (.cells #[.bool b6, .slice A6 k6 c6, .slice A6' k6' c6'] 28)) := ext_alloc y6 _
  have h6 := h6.below (ext_alloc (Below.refl _ _) (.cells #[.bool b6, .slice A6 k6 c6, .slice A6' k6' c6'] 28))
  have hsz6 : w6.heap.size < (w6.alloc (.cells #[.bool b6, .slice A6 k6 c6, .slice A6' k6' c6'] 28)).heap.size := by simp
  generalize w6.alloc (.cells #[.bool b6, .slice A6 k6 c6, .slice A6' k6' c6'] 28) = W6 at *
  generalize w6.heap.size = B6 at *
  go_upto_region 8 with (fail)
  have q8 : (W6.alloc (.cells #[.nilFunc] 63)).cell? ⟨W6.heap.size, 0, none⟩ = some .nilFunc := by simp [go_sem]
  have g8 : (W6.alloc (.cells #[.nilFunc] 63)).frozen? ⟨W6.heap.size, 0, none⟩ = false := by simp [go_sem]
  have x8 : Ext W6 (W6.alloc (.cells #[.nilFunc] 63)) := ext_alloc (Below.refl _ _) _
  generalize W6.alloc (.cells #[.nilFunc] 63) = W8 at *
  go_upto_region 9 with (fail)
  have q9 : (W8.setCell ⟨W6.heap.size, 0, none⟩ (tryF w.heap.size W6.heap.size B6 W0.heap.size)).cell? ⟨W6.heap.size, 0, none⟩ = some (tryF w.heap.size W6.heap.size B6 W0.heap.size) := World.cell?_setCell_same _ _ _ q8
  have x9 : Ext W6 (W8.setCell ⟨W6.heap.size, 0, none⟩ (tryF w.heap.size W6.heap.size B6 W0.heap.size)) := x8.setCell (p := ⟨W6.heap.size, 0, none⟩) (Nat.le_refl _) _
  clear q8 g8 x8
  generalize W8.setCell ⟨W6.heap.size, 0, none⟩ (tryF w.heap.size W6.heap.size B6 W0.heap.size) = W9 at *
  have hG : TryG w w.heap.size W6.heap.size B6 W0.heap.size := ⟨Nat.le_refl _, by omega, by omega, by omega, by omega, by omega, by omega, by omega, by omega⟩
  have hS9 : TryS w w.heap.size W6.heap.size B6 W0.heap.size (.slice A (natsS D).length c) W9 [] (-1) :=
    ⟨x0.trans (x5.trans (Y6.trans x9)), HQ0.out _ (x5.trans (Y6.trans x9)), q9, ⟨none, 0, (HQ5.out _ (Y6.trans x9)).1, (HQ5.out _ (Y6.trans x9)).2, IntsV.nil_ _, Apart.nil_⟩,
      ⟨b6, A6, k6, c6, A6', k6', c6', hG6.below x9, h6.below x9, fun g hg => by have := n6 g hg; have := a6 g hg; omega, fun g hg => by have := n6' g hg; have := a6' g hg; omega⟩, (show FB (-1 : Rat) 1 from ⟨len_small (by decide), len_small (by decide)⟩).mono (by omega)⟩
  have HC := Lib.hid (show Calls Tryd.prog 41 #[.slice none 0 0, .int .i64 m, .pointer (some ⟨w.heap.size, 0, none⟩), .pointer (some ⟨W6.heap.size, 0, none⟩), .pointer (some ⟨B6, 0, none⟩), .pointer (some ⟨W0.heap.size, 0, none⟩)] W9 (fun e w' => e = .returned (.tuple #[]) ∧ TryS w w.heap.size W6.heap.size B6 W0.heap.size (.slice A (natsS D).length c) w' (bestL D m).1 (bestL D m).2 ∧ TExt W0.heap.size B6 W9 w') from by
    have h := HTRY.out _ _ _ _ hG [] m W9 [] (-1) none 0 (by have := HDL.out; simp; omega) (by simpa using hm) (IntsV.nil_ _) Apart.nil_ hS9
    rw [← HBV.out] at h
    exact h)
  clear hG hS9 a6 a6' n6 n6' hG6 h6
  go_wp2_with fail
  refine HC.out.mono ?_
  rintro e w10 ⟨rfl, hS10, _⟩
  obtain ⟨hE10, _, _, ⟨AX, cX, hcX, _, hIX, _⟩, _, _⟩ := hS10
  go_wp2
  go_ret2
  exact ⟨AX, cX, rfl, hIX, hE10⟩

end Go.Proofs.YtnedgbebajhcpaaDoor
