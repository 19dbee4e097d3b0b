/- counting.RankSet of a list that is no set in order; base.Ascending. -/
import Derived.Test.YthikgbgmnlmmlaaDoorRankA
set_option linter.unusedVariables false
set_option linter.unusedSimpArgs false
set_option maxRecDepth 100000
namespace Go.Proofs.YthikgbgmnlmmlaaDoor
open Go.RowKit Num

/-- The number at i is in its range and above the one before it. -/
def okAt (n : Int) (zs : List Int) (i : Nat) : Prop := 0 ≤ zs.getD i 0 ∧ zs.getD i 0 < n ∧ ∀ j, i = j + 1 → zs.getD j 0 < zs.getD i 0
def okAll (n : Int) (zs : List Int) : Prop := ∀ i, i < zs.length → okAt n zs i

theorem asc_of_ok {n : Nat} : ∀ (zs : List Int) (lo : Nat), okAll n zs → (0 < zs.length → (lo : Int) ≤ zs.getD 0 0) → ∃ cs, zs = ints cs ∧ Asc n lo cs := by
  intro zs
  induction zs with
  | nil => intro lo _ _; exact ⟨[], rfl, trivial⟩
  | cons z r ih =>
    intro lo h hlo
    obtain ⟨h1, h2, _⟩ := h 0 (by simp)
    have hl := hlo (by simp)
    simp at h1 h2 hl
    obtain ⟨cs, hcs, ha⟩ := ih (z.toNat + 1) (by
      intro i hi
      obtain ⟨a1, a2, a3⟩ := h (i + 1) (by simpa using hi)
      refine ⟨by simpa using a1, by simpa using a2, fun j hj => ?_⟩
      have := a3 (j + 1) (by omega)
      simpa using this) (by
      intro hr
      have := (h 1 (by simpa using hr)).2.2 0 rfl
      simp at this ⊢
      omega)
    exact ⟨z.toNat :: cs, by simp [ints] at hcs ⊢; exact ⟨by omega, hcs⟩, by omega, by omega, ha⟩
theorem ok_of_asc {n : Nat} {cs : List Nat} (h : Asc n 0 cs) : okAll n (ints cs) := by
  intro i hi
  rw [ints_length] at hi
  obtain ⟨a1, a2, a3⟩ := h.at_ hi
  refine ⟨by rw [ints_getD]; omega, by rw [ints_getD]; omega, fun j hj => ?_⟩
  rw [ints_getD, ints_getD]
  have := a3 j hj
  omega

theorem bad_split {n : Int} {zs : List Int} {k : Nat} (h : ¬ okAt n zs k) : zs.getD k 0 < 0 ∨ (0 ≤ zs.getD k 0 ∧ n ≤ zs.getD k 0) ∨ (0 ≤ zs.getD k 0 ∧ zs.getD k 0 < n ∧ ∃ j, k = j + 1 ∧ zs.getD k 0 ≤ zs.getD j 0) := by
  by_cases h1 : zs.getD k 0 < 0
  · exact .inl h1
  by_cases h2 : n ≤ zs.getD k 0
  · exact .inr (.inl ⟨by omega, h2⟩)
  refine .inr (.inr ⟨by omega, by omega, ?_⟩)
  cases k with
  | zero => exact absurd ⟨by omega, by omega, fun j hj => by omega⟩ h
  | succ j =>
    refine ⟨j, rfl, ?_⟩
    rcases Int.lt_or_le (zs.getD j 0) (zs.getD (j + 1) 0) with h3 | h3
    · refine absurd ⟨by omega, by omega, fun i hi => ?_⟩ h
      have : i = j := by omega
      subst this
      exact h3
    · exact h3

theorem crank_range {n : Int} {v : Value} {w : World} (h' : n < 0 ∨ 64 < n) (hv : ∃ A k c, v = .slice A k c) :
    Calls Tryd.prog 16 #[.int .i64 n, v] w (GivesT w 0 2) := by
  obtain ⟨A, k, c, rfl⟩ := hv
  go_enter Tryd.func16, Tryd.ntmps16
  go_wp2_with (go_at_call 40; (with_reducible refine (within_f h').mono ?_); rintro e w1 ⟨rfl, rfl⟩)
  refine bodyPost_ret (v := .tuple #[.agg #[.slice none 0 0], .int .i64 2]) (by simp [results, Tryd.results16, go_sem]) rfl ?_
  exact GivesT.zero

set_option maxHeartbeats 2000000 in
theorem crank_bad {n cap : Nat} {A : Option Addr} {zs : List Int} {w : World} (hn : n ≤ 64) (hr : Reads w 1 A zs.length (i64s zs)) (hbad : ¬ okAll n zs) (hlen : zs.length ≤ 70368744177664) :
    Calls Tryd.prog 16 #[.int .i64 n, .slice A zs.length cap] w (GivesT w 0 1) := by
  have HR := Lib.hid hr
  have HA := Lib.hid hbad
  clear hr hbad
  go_enter Tryd.func16, Tryd.ntmps16
  go_wp2_with (go_at_call 40; (with_reducible refine (within_t (by omega)).mono ?_); rintro e w1 ⟨rfl, rfl⟩)
  have hx0 : Ext w (w.alloc (.cells #[.slice none 0 0] 25)) := ext_alloc (Below.refl _ _) _
  go_loopw [19] (fun iv wr => ∃ k : Nat, k ≤ zs.length ∧ iv = .int .i64 k ∧ wr = w.alloc (.cells #[.slice none 0 0] 25) ∧ Hid (∀ i, i < k → okAt n zs i)) (fun iv _ => zs.length - (intOf iv).toNat)
  case atStart => exact ⟨0, Nat.zero_le _, rfl, rfl, Lib.hid (by omega)⟩
  case round =>
    obtain ⟨k, hk, rfl, rfl, hok⟩ := hrel
    by_cases hkl : k < zs.length
    · obtain ⟨ad, rfl, hb, hc⟩ := reads_i64 (HR.out.below hx0) (k := k) hkl
      by_cases hokk : okAt n zs k
      · have HN := Lib.hid (show ∀ i, i < k + 1 → okAt n zs i from fun i hi => by
          rcases Nat.lt_or_ge i k with h | h
          · exact hok.out i h
          · rw [show i = k from by omega]; exact hokk)
        obtain ⟨a1, a2, a3⟩ := hokk
        clear hok
        cases k with
        | zero =>
          simp only [Addr.add, ↓reduceIte] at hc
          clear a3
          generalize zs.getD 0 0 = x at *
          have hb0 : decide (x < 0) = false := by simp; omega
          have hb1 : decide ((n : Int) ≤ x) = false := by simp; omega
          go_wp2
          go_roundw
          case rel => exact ⟨1, by omega, by go_num, by first | trivial | rfl, HN⟩
          case measure => simp [intOf]; omega
        | succ j =>
          obtain ⟨ad', he, hb', hc'⟩ := reads_i64 (HR.out.below hx0) (k := j) (by omega)
          injection he with he
          subst he
          have hc2 : (w.alloc (.cells #[.slice none 0 0] 25)).cell? ⟨ad.block, ad.off + (j + 1), none⟩ = some (.int .i64 (zs.getD (j + 1) 0)) := by simpa [Addr.add] using hc
          have a4 := a3 j rfl
          clear a3
          generalize zs.getD (j + 1) 0 = x at *
          generalize zs.getD j 0 = y at *
          have hb0 : decide (x < 0) = false := by simp; omega
          have hb1 : decide ((n : Int) ≤ x) = false := by simp; omega
          have hb2 : decide (x ≤ y) = false := by simp; omega
          go_wp2
          go_roundw
          case rel => exact ⟨j + 2, by omega, by go_num, by first | trivial | rfl, HN⟩
          case measure => simp [intOf]; omega
      · clear hok
        rcases bad_split hokk with hx | ⟨hx1, hx2⟩ | ⟨hx1, hx2, j, rfl, hx3⟩
        · clear hokk
          generalize zs.getD k 0 = x at *
          have hb0 : decide (x < 0) = true := by simp; omega
          go_wp2
          refine bodyPost_ret (v := .tuple #[.agg #[.slice none 0 0], .int .i64 1]) (by simp [results, Tryd.results16, go_sem]) rfl ?_
          exact GivesT.zero
        · clear hokk
          generalize zs.getD k 0 = x at *
          have hb0 : decide (x < 0) = false := by simp; omega
          have hb1 : decide ((n : Int) ≤ x) = true := by simp; omega
          go_wp2
          refine bodyPost_ret (v := .tuple #[.agg #[.slice none 0 0], .int .i64 1]) (by simp [results, Tryd.results16, go_sem]) rfl ?_
          exact GivesT.zero
        · clear hokk
          obtain ⟨ad', he, hb', hc'⟩ := reads_i64 (HR.out.below hx0) (k := j) (by omega)
          injection he with he
          subst he
          have hc2 : (w.alloc (.cells #[.slice none 0 0] 25)).cell? ⟨ad.block, ad.off + (j + 1), none⟩ = some (.int .i64 (zs.getD (j + 1) 0)) := by simpa [Addr.add] using hc
          generalize zs.getD (j + 1) 0 = x at *
          generalize zs.getD j 0 = y at *
          have hb0 : decide (x < 0) = false := by simp; omega
          have hb1 : decide ((n : Int) ≤ x) = false := by simp; omega
          have hb2 : decide (x ≤ y) = true := by simp; omega
          go_wp2
          refine bodyPost_ret (v := .tuple #[.agg #[.slice none 0 0], .int .i64 1]) (by simp [results, Tryd.results16, go_sem]) rfl ?_
          exact GivesT.zero
    · exact absurd (fun i hi => hok.out i (by omega)) HA.out

set_option maxHeartbeats 2000000 in
theorem asc_any {cap : Nat} {A : Option Addr} {n : Int} {zs : List Int} {w : World} {b : Bool} (hn : 0 ≤ n ∧ n ≤ 64) (hr : Reads w 1 A zs.length (i64s zs)) (hb : b = true ↔ okAll n zs) (hlen : zs.length ≤ 70368744177664) :
    Calls Tryd.prog 37 #[.slice A zs.length cap, .int .i64 0, .int .i64 (n - 1)] w (fun e w' => e = .returned (.bool b) ∧ Ext w w') := by
  have HR := Lib.hid hr
  have HA := Lib.hid hb
  clear hr hb
  go_enter Tryd.func37, Tryd.ntmps37
  go_wp2
  go_loopw [7] (fun iv wr => ∃ k : Nat, k ≤ zs.length ∧ iv = .int .i64 k ∧ Ext w wr ∧ Hid (∀ i, i < k → okAt n zs i)) (fun iv _ => zs.length - (intOf iv).toNat)
  case atStart => exact ⟨0, Nat.zero_le _, rfl, Below.refl _ _, Lib.hid (by omega)⟩
  case round =>
    obtain ⟨k, hk, rfl, hx, hok⟩ := hrel
    by_cases hkl : k < zs.length
    · obtain ⟨ad, rfl, hb, hc⟩ := reads_i64 (HR.out.below hx) (k := k) hkl
      by_cases hokk : okAt n zs k
      · have HN := Lib.hid (show ∀ i, i < k + 1 → okAt n zs i from fun i hi => by
          rcases Nat.lt_or_ge i k with h | h
          · exact hok.out i h
          · rw [show i = k from by omega]; exact hokk)
        obtain ⟨a1, a2, a3⟩ := hokk
        clear hok
        cases k with
        | zero =>
          simp only [Addr.add, ↓reduceIte] at hc
          clear a3
          generalize zs.getD 0 0 = x at *
          have hb0 : decide (x < 0) = false := by simp; omega
          have hb1 : decide (n - 1 < x) = false := by simp; omega
          go_wp2
          go_quiet (fail)
          go_wp2
          go_roundw
          case rel => exact ⟨1, by omega, by go_num, hx.drewN _, HN⟩
          case measure => simp [intOf]; omega
        | succ j =>
          obtain ⟨ad', he, hb', hc'⟩ := reads_i64 (HR.out.below hx) (k := j) (by omega)
          injection he with he
          subst he
          have hc2 : wr.cell? ⟨ad.block, ad.off + (j + 1), none⟩ = some (.int .i64 (zs.getD (j + 1) 0)) := by simpa [Addr.add] using hc
          have a4 := a3 j rfl
          clear a3
          generalize zs.getD (j + 1) 0 = x at *
          generalize zs.getD j 0 = y at *
          have hb0 : decide (x < 0) = false := by simp; omega
          have hb1 : decide (n - 1 < x) = false := by simp; omega
          have hb2 : decide (x ≤ y) = false := by simp; omega
          have hw1 : IntKind.i64.wrap (((j + 1 : Nat) : Int) - 1) = (j : Int) := by rw [wrap_in (by omega)]; omega
          go_wp2
          go_quiet (fail)
          go_wp2
          go_roundw
          case rel => exact ⟨j + 2, by omega, by go_num, hx.drewN _, HN⟩
          case measure => simp [intOf]; omega
      · clear hok
        have HF := Lib.hid (show b = false from by
          cases b with
          | false => rfl
          | true => exact absurd (HA.out.1 rfl k hkl) hokk)
        rcases bad_split hokk with hx0 | ⟨hx1, hx2⟩ | ⟨hx1, hx2, j, rfl, hx3⟩
        · clear hokk
          generalize zs.getD k 0 = x at *
          have hb0 : decide (x < 0) = true := by simp; omega
          go_wp2
          go_quiet (fail)
          go_wp2
          go_ret
          have e0 := HF.out; subst e0; exact ⟨rfl, hx.drewN _⟩
        · clear hokk
          generalize zs.getD k 0 = x at *
          have hb0 : decide (x < 0) = false := by simp; omega
          have hb1 : decide (n - 1 < x) = true := by simp; omega
          go_wp2
          go_quiet (fail)
          go_wp2
          go_ret
          have e0 := HF.out; subst e0; exact ⟨rfl, hx.drewN _⟩
        · clear hokk
          obtain ⟨ad', he, hb', hc'⟩ := reads_i64 (HR.out.below hx) (k := j) (by omega)
          injection he with he
          subst he
          have hc2 : wr.cell? ⟨ad.block, ad.off + (j + 1), none⟩ = some (.int .i64 (zs.getD (j + 1) 0)) := by simpa [Addr.add] using hc
          generalize zs.getD (j + 1) 0 = x at *
          generalize zs.getD j 0 = y at *
          have hb0 : decide (x < 0) = false := by simp; omega
          have hb1 : decide (n - 1 < x) = false := by simp; omega
          have hb2 : decide (x ≤ y) = true := by simp; omega
          have hw1 : IntKind.i64.wrap (((j + 1 : Nat) : Int) - 1) = (j : Int) := by rw [wrap_in (by omega)]; omega
          go_wp2
          go_quiet (fail)
          go_wp2
          go_ret
          have e0 := HF.out; subst e0; exact ⟨rfl, hx.drewN _⟩
    · have HT := Lib.hid (show b = true from HA.out.2 fun i hi => hok.out i (by omega))
      go_wp2
      go_ret
      have e0 := HT.out; subst e0; exact ⟨rfl, hx⟩

end Go.Proofs.YthikgbgmnlmmlaaDoor
