/- What functions give that answer (Fraction, Errno); comparisons and signs by value. -/
import Derived.Test.YtbplkienkhinmaaGreatDoorFracS
set_option linter.unusedVariables false
set_option linter.unusedSimpArgs false
set_option maxRecDepth 100000
namespace Go.Proofs.YtbplkienkhinmaaGreatDoor
open Go.RowKit Num

/-- What a function that answers (Fraction, Errno) gives. -/
def GivesFE (w : World) (q : Rat) (e : Ending) (w' : World) : Prop :=
  ∃ b A k c A' k' c', e = .returned (.tuple #[.agg #[.bool b, .slice A k c, .slice A' k' c'], .int .i64 0]) ∧ FracV w' b (.slice A k c) (.slice A' k' c') q ∧ Ext w w' ∧ New w.heap.size (.slice A k c) ∧ New w.heap.size (.slice A' k' c')
def GivesFN (w : World) (er : Int) (e : Ending) (w' : World) : Prop :=
  e = .returned (.tuple #[.agg #[.bool false, .slice none 0 0, .slice none 0 0], .int .i64 er]) ∧ Ext w w'
theorem GivesFE.box {w w1 : World} {b : Bool} {A A' : Option Addr} {k c k' c' B : Nat} {q : Rat} {p0 p1 p2 : Value} (hE : Ext w w1) (h : FracV w1 b (.slice A k c) (.slice A' k' c') q) (hn : New (B + 1) (.slice A k c)) (hn' : New (B + 1) (.slice A' k' c')) (hB : w.heap.size ≤ B) :
    GivesFE w q (.returned (.tuple #[.agg #[.bool b, .slice A k c, .slice A' k' c'], .int .i64 0])) (((w1.setCell ⟨B, 0, none⟩ p0).setCell ⟨B, 1, none⟩ p1).setCell ⟨B, 2, none⟩ p2) := by
  obtain ⟨_, _, _, _, _, _, _, e, h1, h2, h3, h4⟩ := GivesF.box (p0 := p0) (p1 := p1) (p2 := p2) hE h hn hn' hB
  injection e with e
  injection e with e
  simp only [Array.mk.injEq, List.cons.injEq, Value.bool.injEq, Value.slice.injEq, and_true] at e
  obtain ⟨rfl, ⟨rfl, rfl, rfl⟩, rfl, rfl, rfl⟩ := e
  exact ⟨_, _, _, _, _, _, _, rfl, h1, h2, h3, h4⟩

/-- What a function that answers (Fraction, Errno) gives, whichever way. -/
def GivesP (w : World) (b : Bool) (n d : Nat) (er : Int) (e : Ending) (w' : World) : Prop :=
  ∃ A k c A' k' c', e = .returned (.tuple #[.agg #[.bool b, .slice A k c, .slice A' k' c'], .int .i64 er]) ∧ CanV w' (.slice A k c) n ∧ CanV w' (.slice A' k' c') d ∧ Ext w w' ∧ New w.heap.size (.slice A k c) ∧ New w.heap.size (.slice A' k' c')
theorem GivesFE.p {w w' : World} {q : Rat} {e : Ending} (h : GivesFE w q e w') : GivesP w (decide (q < 0)) q.num.natAbs q.den 0 e w' := by
  obtain ⟨b, A, k, c, A', k', c', rfl, ⟨rfl, h1, h2⟩, hE, hn, hn'⟩ := h
  exact ⟨A, k, c, A', k', c', rfl, h1, h2, hE, hn, hn'⟩
theorem GivesFN.p {w w' : World} {er : Int} {e : Ending} (h : GivesFN w er e w') : GivesP w false 0 0 er e w' := by
  obtain ⟨rfl, hE⟩ := h
  exact ⟨none, 0, 0, none, 0, 0, rfl, CanV.nil_ _, CanV.nil_ _, hE, New.nil_ _, New.nil_ _⟩

theorem fb_i64 {n d : Int} (hn : -9223372036854775808 ≤ n ∧ n ≤ 9223372036854775807) (hd : -9223372036854775808 ≤ d ∧ d ≤ 9223372036854775807) : FB ((n : Rat) / (d : Rat)) 3 := by
  rw [← frac_of]
  exact frac_fb (limbs_i64 hn) (limbs_i64 hd) (by decide)
theorem fb_zero : FB 0 3 := by
  refine ⟨?_, ?_⟩
  · show (limbsOf 0).length ≤ 3; rw [limbsOf_zero]; simp
  · show (limbsOf 1).length ≤ 3; rw [limbsOf_one (by omega) (by omega)]; simp
theorem cmp_e {b b' : Bool} {s t s' t' : Value} {p q : Rat} {L M : Nat} {z : Int} {w : World} (hx : AnyF w b s t p L) (hy : AnyF w b' s' t' q M) (hL : L + M ≤ 549755813887) (hz : cmpQ p q = z) :
    Calls Tryz.prog 9 #[.agg #[.bool b, s, t], .agg #[.bool b', s', t']] w (fun e w' => e = .returned (.int .i64 z) ∧ Ext w w') := by
  subst hz
  exact cmp_f hx hy hL
theorem sign_e {b : Bool} {s t : Value} {q : Rat} {L : Nat} {z : Int} {w : World} (hx : AnyF w b s t q L) (hz : sgnQ q = z) :
    Calls Tryz.prog 6 #[.agg #[.bool b, s, t]] w (fun e w' => e = .returned (.int .i64 z) ∧ Ext w w') := by
  subst hz
  exact sign_f hx

theorem FBox.lt {w : World} {b : Nat} {x y z : Value} (h : FBox w b x y z) : b < w.heap.size := World.block_lt_of_cell? _ _ h.1
/-- A box somewhere that holds a canonical fraction. -/
def FBoxAt (W wx : World) (s : Value) (q : Rat) : Prop := ∃ b c A k l A' k' l', s = .pointer (some ⟨b, 0, none⟩) ∧ W.heap.size ≤ b ∧ FBox wx b (.bool c) (.slice A k l) (.slice A' k' l') ∧ FracV wx c (.slice A k l) (.slice A' k' l') q ∧ Ext W wx

theorem GivesF.fe {w w' : World} {q : Rat} {b : Bool} {s t : Value} (h : GivesF w q (.returned (.agg #[.bool b, s, t])) w') : GivesFE w q (.returned (.tuple #[.agg #[.bool b, s, t], .int .i64 0])) w' := by
  obtain ⟨b', A, k, c, A', k', c', e, h1⟩ := h
  injection e with e
  injection e with e
  simp only [Array.mk.injEq, List.cons.injEq, Value.bool.injEq, and_true] at e
  obtain ⟨rfl, rfl, rfl⟩ := e
  exact ⟨_, _, _, _, _, _, _, rfl, h1⟩

end Go.Proofs.YtbplkienkhinmaaGreatDoor
