/- counting: Binomial, Factorial, Falling. -/
import Derived.Test.YthikgbgmnlmmlaaDoorCount
set_option linter.unusedVariables false
set_option linter.unusedSimpArgs false
set_option maxRecDepth 100000
namespace Go.Proofs.YthikgbgmnlmmlaaDoor
open Go.RowKit Num

/-- A Natural and an error number. -/
def GivesT (w : World) (n : Nat) (er : Int) (e : Ending) (w' : World) : Prop :=
  ∃ A k c, e = .returned (.tuple #[.agg #[.slice A k c], .int .i64 er]) ∧ CanV w' (.slice A k c) n ∧ Ext w w' ∧ New w.heap.size (.slice A k c)
theorem GivesT.zero {w : World} {er : Int} {t : TypeId} {u : Value} : GivesT w 0 er (.returned (.tuple #[.agg #[.slice none 0 0], .int .i64 er])) (w.alloc (.cells #[u] t)) :=
  ⟨none, 0, 0, rfl, CanV.nil_ _, ext_alloc (Below.refl _ _) _, New.nil_ _⟩

def binV (n k : Int) : Nat := if 0 ≤ n ∧ n ≤ 300 then binI n.toNat k else 0
def okE (p : Prop) [Decidable p] : Int := if p then 0 else 2

theorem within_t {n h : Int} {w : World} (h0 : 0 ≤ n ∧ n ≤ h) : Calls Tryd.prog 40 #[.int .i64 n, .int .i64 h] w (fun e w' => e = .returned (.bool true) ∧ w' = w) := by
  obtain ⟨h1, h2⟩ := h0
  have hb : decide (n ≤ h) = true := by simpa using h2
  clear h2
  go_enter Tryd.func40, Tryd.ntmps40
  go_wp2
  go_ret
  exact ⟨rfl, rfl⟩
theorem within_f {n h : Int} {w : World} (h0 : n < 0 ∨ h < n) : Calls Tryd.prog 40 #[.int .i64 n, .int .i64 h] w (fun e w' => e = .returned (.bool false) ∧ w' = w) := by
  by_cases hn : n < 0
  · clear h0
    go_enter Tryd.func40, Tryd.ntmps40
    go_wp2
    go_ret
    exact ⟨rfl, rfl⟩
  · have hb : decide (n ≤ h) = false := by simp; omega
    clear h0
    go_enter Tryd.func40, Tryd.ntmps40
    go_wp2
    go_ret
    exact ⟨rfl, rfl⟩

set_option maxHeartbeats 1000000 in
theorem cbin_bad {n k : Int} {w : World} (h : ¬ (0 ≤ n ∧ n ≤ 300)) :
    Calls Tryd.prog 13 #[.int .i64 n, .int .i64 k] w (GivesT w 0 2) := by
  have h' : n < 0 ∨ 300 < n := by omega
  clear h
  go_enter Tryd.func13, Tryd.ntmps13
  go_wp2_with (go_at_call 40; refine (within_f h').mono ?_; rintro e w1 ⟨rfl, rfl⟩)
  refine bodyPost_ret (v := .tuple #[.agg #[.slice none 0 0], .int .i64 2]) (by simp [results, Tryd.results13, go_sem]) rfl ?_
  exact GivesT.zero

/-- The end: the answer stored in its box. -/
theorem GivesT.box {w w1 : World} {A : Option Addr} {m c n : Nat} {er : Int} (hE : Ext w w1) (h : CanV w1 (.slice A m c) n) (hn : New (w.heap.size + 1) (.slice A m c)) :
    GivesT w n er (.returned (.tuple #[.agg #[.slice A m c], .int .i64 er])) (w1.setCell ⟨w.heap.size, 0, none⟩ (.slice A m c)) := by
  obtain ⟨r1, r2, r3⟩ := res_box (u := .slice A m c) hE h hn
  exact ⟨_, _, _, rfl, r1, r2, r3⟩

set_option maxHeartbeats 1000000 in
theorem cbin_ok {n k : Int} {w : World} (h1 : 0 ≤ n) (h2 : n ≤ 300) :
    Calls Tryd.prog 13 #[.int .i64 n, .int .i64 k] w (GivesT w (binI n.toNat k) 0) := by
  obtain ⟨m, rfl⟩ : ∃ m : Nat, n = m := ⟨n.toNat, by omega⟩
  rw [Int.toNat_natCast]
  have hc : ∀ w, Calls Tryd.prog 41 #[.int .i64 m, .int .i64 k] w (GivesN w (binI m k)) := by
    intro w
    by_cases hk : k < 0 ∨ (m : Int) < k
    · rw [binI_out hk]; exact binomial_out (by omega) hk
    · obtain ⟨j, rfl⟩ : ∃ j : Nat, k = j := ⟨k.toNat, by omega⟩
      rw [binI_nat]; exact binomial_in (by omega) (by omega)
  have HC := Lib.hid hc
  clear hc
  go_enter Tryd.func13, Tryd.ntmps13
  go_wp2_with (first
    | (go_at_call 40; refine (within_t ⟨h1, h2⟩).mono ?_; rintro e w1 ⟨rfl, rfl⟩)
    | (go_at_call 41; refine (HC.out _).mono ?_; rintro e w1 ⟨A1, k1, c1, rfl, y1, x1, n1⟩; obtain ⟨z1, zf1⟩ := box_new x1; have hE := ext_new x1; simp at n1))
  refine bodyPost_ret (v := .tuple #[.agg #[.slice A1 k1 c1], .int .i64 0]) (by simp [results, Tryd.results13, go_sem, World.cell?_setCell_same _ _ _ z1]) rfl ?_
  exact GivesT.box hE y1 n1

theorem cbin_any {n k : Int} {w : World} : Calls Tryd.prog 13 #[.int .i64 n, .int .i64 k] w (GivesT w (binV n k) (okE (0 ≤ n ∧ n ≤ 300))) := by
  unfold binV okE
  by_cases h : 0 ≤ n ∧ n ≤ 300
  · rw [if_pos h, if_pos h]; exact cbin_ok h.1 h.2
  · rw [if_neg h, if_neg h]; exact cbin_bad h

def facV (n : Int) : Nat := if 0 ≤ n ∧ n ≤ 200 then fact n.toNat else 0
def falV (n k : Int) : Nat := if (0 ≤ n ∧ n ≤ 200) ∧ (0 ≤ k ∧ k ≤ 200) then fall n.toNat k.toNat else 0

set_option maxHeartbeats 1000000 in
theorem cfac_any {n : Int} {w : World} : Calls Tryd.prog 25 #[.int .i64 n] w (GivesT w (facV n) (okE (0 ≤ n ∧ n ≤ 200))) := by
  unfold facV okE
  by_cases h : 0 ≤ n ∧ n ≤ 200
  · rw [if_pos h, if_pos h]
    obtain ⟨m, rfl⟩ : ∃ m : Nat, n = m := ⟨n.toNat, by omega⟩
    rw [Int.toNat_natCast, ← fall_self]
    have HC := Lib.hid (fun w => falling_n (n := m) (k := m) (w := w) (by omega) (by omega))
    go_enter Tryd.func25, Tryd.ntmps25
    go_wp2_with (first | (go_at_call 40; refine (within_t (by omega)).mono ?_; rintro e w1 ⟨rfl, rfl⟩) | (go_at_call 51; refine (HC.out _).mono ?_; rintro e w1 ⟨A1, k1, c1, rfl, y1, x1, n1⟩; obtain ⟨z1, zf1⟩ := box_new x1; have hE := ext_new x1; simp at n1))
    refine bodyPost_ret (v := .tuple #[.agg #[.slice A1 k1 c1], .int .i64 0]) (by simp [results, Tryd.results25, go_sem, World.cell?_setCell_same _ _ _ z1]) rfl ?_
    exact GivesT.box hE y1 n1
  · rw [if_neg h, if_neg h]
    have h' : n < 0 ∨ 200 < n := by omega
    clear h
    go_enter Tryd.func25, Tryd.ntmps25
    go_wp2_with (go_at_call 40; refine (within_f (by omega)).mono ?_; rintro e w1 ⟨rfl, rfl⟩)
    refine bodyPost_ret (v := .tuple #[.agg #[.slice none 0 0], .int .i64 2]) (by simp [results, Tryd.results25, go_sem]) rfl ?_
    exact GivesT.zero

set_option maxHeartbeats 1000000 in
theorem cfal_any {n k : Int} {w : World} : Calls Tryd.prog 27 #[.int .i64 n, .int .i64 k] w (GivesT w (falV n k) (okE ((0 ≤ n ∧ n ≤ 200) ∧ (0 ≤ k ∧ k ≤ 200)))) := by
  unfold falV okE
  by_cases h : (0 ≤ n ∧ n ≤ 200) ∧ (0 ≤ k ∧ k ≤ 200)
  · rw [if_pos h, if_pos h]
    obtain ⟨h1, h2⟩ := h
    obtain ⟨m, rfl⟩ : ∃ m : Nat, n = m := ⟨n.toNat, by omega⟩
    obtain ⟨j, rfl⟩ : ∃ m : Nat, k = m := ⟨k.toNat, by omega⟩
    rw [Int.toNat_natCast, Int.toNat_natCast]
    have HC := Lib.hid (fun w => falling_n (n := m) (k := j) (w := w) (by omega) (by omega))
    go_enter Tryd.func27, Tryd.ntmps27
    go_wp2_with (first | (go_at_call 40; refine (within_t (by omega)).mono ?_; rintro e w1 ⟨rfl, rfl⟩) | (go_at_call 51; refine (HC.out _).mono ?_; rintro e w1 ⟨A1, k1, c1, rfl, y1, x1, n1⟩; obtain ⟨z1, zf1⟩ := box_new x1; have hE := ext_new x1; simp at n1))
    refine bodyPost_ret (v := .tuple #[.agg #[.slice A1 k1 c1], .int .i64 0]) (by simp [results, Tryd.results27, go_sem, World.cell?_setCell_same _ _ _ z1]) rfl ?_
    exact GivesT.box hE y1 n1
  · rw [if_neg h, if_neg h]
    by_cases hn : n < 0 ∨ 200 < n
    · clear h
      go_enter Tryd.func27, Tryd.ntmps27
      go_wp2_with (go_at_call 40; refine (within_f (by omega)).mono ?_; rintro e w1 ⟨rfl, rfl⟩)
      refine bodyPost_ret (v := .tuple #[.agg #[.slice none 0 0], .int .i64 2]) (by simp [results, Tryd.results27, go_sem]) rfl ?_
      exact GivesT.zero
    · have h' : k < 0 ∨ 200 < k := by omega
      have h1 : 0 ≤ n ∧ n ≤ 200 := by omega
      clear h hn
      go_enter Tryd.func27, Tryd.ntmps27
      go_wp2_with (first | (go_at_call 40; (with_reducible refine (within_t h1).mono ?_); rintro e w1 ⟨rfl, rfl⟩) | (go_at_call 40; (with_reducible refine (within_f h').mono ?_); rintro e w1 ⟨rfl, rfl⟩))
      refine bodyPost_ret (v := .tuple #[.agg #[.slice none 0 0], .int .i64 2]) (by simp [results, Tryd.results27, go_sem]) rfl ?_
      exact GivesT.zero

end Go.Proofs.YthikgbgmnlmmlaaDoor
