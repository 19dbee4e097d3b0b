/- ref01: DivMod of any, Gcd. -/
import Derived.Test.YtkjcbfaimonaoaaDoorRefDivBig
import Derived.Test.YtkjcbfaimonaoaaDoorMisc
import Derived.Deep.LoopGhost
set_option linter.unusedVariables false
set_option linter.unusedSimpArgs false
set_option maxRecDepth 100000
namespace Go.Proofs.YtkjcbfaimonaoaaDoor
open Go.RowKit Num

theorem rdivmod_pos {x y : Value} {a b : Nat} {w : World} (hx : NatV w x a) (hy : NatV w y b) (hb0 : 0 < b) (hl : (limbsOf a).length ≤ 549755813887) (hl2 : (limbsOf b).length ≤ 549755813887) :
    Calls Tryd.prog 89 #[.agg #[x], .agg #[y]] w (DivModR w a b) := by
  by_cases h : a < b
  · exact rdivmod_small hx hy h (by omega) (by omega)
  · exact rdivmod_big hx hy (by omega) hb0 hl

set_option maxHeartbeats 2000000 in
theorem rgcd_n {x y : Value} {a b : Nat} {w : World} (hx : NatV w x a) (hy : NatV w y b) (ha : (limbsOf a).length ≤ 549755813887) (hb : (limbsOf b).length ≤ 549755813887) :
    Calls Tryd.prog 88 #[.agg #[x], .agg #[y]] w (GivesN w (Nat.gcd a b)) := by
  go_enter Tryd.func88, Tryd.ntmps88
  go_upto_region 1 with (fail)
  have hB0 : Boxes w (((w.alloc (.cells #[x] 30)).alloc (.cells #[y] 30)).alloc (.cells #[.slice none 0 0] 30)) [[x], [y], [.slice none 0 0]] := (((Boxes.nil_ w).alloc rfl [x] 30).alloc (by simp) [y] 30).alloc (by simp) [.slice none 0 0] 30
  generalize ((w.alloc (.cells #[x] 30)).alloc (.cells #[y] 30)).alloc (.cells #[.slice none 0 0] 30) = W0 at *
  have hx0 : NatV W0 x a := hx.below hB0.ext
  have HB0 := Lib.hid hB0
  obtain ⟨cx0, fx0⟩ : W0.cell? ⟨w.heap.size, 0, none⟩ = some x ∧ W0.frozen? ⟨w.heap.size, 0, none⟩ = false := hB0.cell 0 _ 0 _ rfl rfl
  clear hB0
  go_wp2_with fail
  refine (norm_n hx0).mono ?_
  rintro e w1 ⟨A1, k1, c1, rfl, h1, x1, n1⟩
  have hB1 := HB0.out.below x1
  obtain ⟨cx1, fx1⟩ : w1.cell? ⟨w.heap.size, 0, none⟩ = some x ∧ w1.frozen? ⟨w.heap.size, 0, none⟩ = false := hB1.cell 0 _ 0 _ rfl rfl
  obtain ⟨cy1, fy1⟩ : w1.cell? ⟨w.heap.size + 1, 0, none⟩ = some y ∧ w1.frozen? ⟨w.heap.size + 1, 0, none⟩ = false := hB1.cell 1 _ 0 _ rfl rfl
  have HB1 := Lib.hid hB1
  clear hB1
  go_wp2_with fail
  have hB2 : Boxes w (w1.setCell ⟨w.heap.size, 0, none⟩ (.slice A1 k1 c1)) [[.slice A1 k1 c1], [y], [.slice none 0 0]] := HB1.out.set 0 0 _
  have hs0 : w.heap.size + 3 ≤ W0.heap.size := HB0.out.size
  have h1' := U32s.setNew (p := ⟨w.heap.size, 0, none⟩) h1 n1 (by show w.heap.size < _; omega) (.slice A1 k1 c1)
  have hs1 : w.heap.size + 3 ≤ (w1.setCell ⟨w.heap.size, 0, none⟩ (.slice A1 k1 c1)).heap.size := hB2.size
  clear cx0 fx0 cx1 fx1 cy1 fy1 HB1
  generalize w1.setCell ⟨w.heap.size, 0, none⟩ (.slice A1 k1 c1) = W1 at *
  obtain ⟨cy2, fy2⟩ : W1.cell? ⟨w.heap.size + 1, 0, none⟩ = some y ∧ W1.frozen? ⟨w.heap.size + 1, 0, none⟩ = false := hB2.cell 1 _ 0 _ rfl rfl
  have hy1 : NatV W1 y b := hy.below hB2.ext
  have HB2 := Lib.hid hB2
  clear hB2
  refine (norm_n hy1).mono ?_
  rintro e w3 ⟨A2, k2, c2, rfl, h2, x3, n2⟩
  have hB3 := HB2.out.below x3
  obtain ⟨cy3, fy3⟩ : w3.cell? ⟨w.heap.size + 1, 0, none⟩ = some y ∧ w3.frozen? ⟨w.heap.size + 1, 0, none⟩ = false := hB3.cell 1 _ 0 _ rfl rfl
  have hB4 : Boxes w (w3.setCell ⟨w.heap.size + 1, 0, none⟩ (.slice A2 k2 c2)) [[.slice A1 k1 c1], [.slice A2 k2 c2], [.slice none 0 0]] := hB3.set 1 0 _
  have n1' : New (w.heap.size + 3) (.slice A1 k1 c1) := n1.mono hs0
  have n2' : New (w.heap.size + 3) (.slice A2 k2 c2) := n2.mono hs1
  have h1'' := U32s.setNew (p := ⟨w.heap.size + 1, 0, none⟩) (CanV.below h1' x3) n1' (by show w.heap.size + 1 < _; omega) (.slice A2 k2 c2)
  have h2'' := U32s.setNew (p := ⟨w.heap.size + 1, 0, none⟩) h2 n2' (by show w.heap.size + 1 < _; omega) (.slice A2 k2 c2)
  clear hB3 cy2 fy2 h1' h2 h1
  go_upto_region 3 with (fail)
  generalize w3.setCell ⟨w.heap.size + 1, 0, none⟩ (.slice A2 k2 c2) = W2 at *
  clear n1 n2 hs0 hs1 x1 x3 cy3 fy3 hx0 hy1 HB0 HB2 hx hy
  clear w3 W1 w1 W0
  go_loopg [] b (fun g wr => ∃ (a' : Nat) (A : Option Addr) (k c : Nat) (A' : Option Addr) (k' c' : Nat), Boxes w wr [[.slice A k c], [.slice A' k' c'], [.slice none 0 0]] ∧ CanV wr (.slice A k c) a' ∧ CanV wr (.slice A' k' c') g ∧ New (w.heap.size + 3) (.slice A k c) ∧ New (w.heap.size + 3) (.slice A' k' c') ∧ Hid (Nat.gcd a' g = Nat.gcd a b) ∧ (limbsOf a').length ≤ 549755813887 ∧ (limbsOf g).length ≤ 549755813887)
  case atStart => exact ⟨a, A1, k1, c1, A2, k2, c2, hB4, h1'', h2'', n1', n2', Lib.hid rfl, ha, hb⟩
  case round =>
    clear hB4 h1'' h2'' n1' n2'
    obtain ⟨a', A, k, c, A', k', c', hB, hp, hq, np, nq, hg, hla, hlb⟩ := hrel
    obtain ⟨cx, fx⟩ : wr.cell? ⟨w.heap.size, 0, none⟩ = some (.slice A k c) ∧ wr.frozen? ⟨w.heap.size, 0, none⟩ = false := hB.cell 0 _ 0 _ rfl rfl
    obtain ⟨cy, fy⟩ : wr.cell? ⟨w.heap.size + 1, 0, none⟩ = some (.slice A' k' c') ∧ wr.frozen? ⟨w.heap.size + 1, 0, none⟩ = false := hB.cell 1 _ 0 _ rfl rfl
    obtain ⟨cz, fz⟩ : wr.cell? ⟨w.heap.size + 1 + 1, 0, none⟩ = some (.slice none 0 0) ∧ wr.frozen? ⟨w.heap.size + 1 + 1, 0, none⟩ = false := hB.cell 2 _ 0 _ rfl rfl
    have HB := Lib.hid hB
    obtain ⟨A2', c2', e, q2, q3, _⟩ := id hq
    injection e with e1 e2 e3
    subst e1 e2 e3
    by_cases hz : gk = 0
    · subst hz
      have hl0 := limbs_zero_len (b := 0) rfl
      rw [hl0] at cy
      go_wp2
      refine bodyPost_ret (v := .agg #[.slice A k c]) (by simp [results, Tryd.results88, go_sem, World.cell?_setCell_same _ _ _ cz]) rfl ?_
      have hg' := hg.out
      rw [Nat.gcd_zero_right] at hg'
      rw [← hg']
      exact ⟨_, _, _, rfl, U32s.setNew hp np (by show w.heap.size + 1 + 1 < _; omega) _, HB.out.ext.setCell (by show w.heap.size ≤ w.heap.size + 1 + 1; omega) _, np.mono (by omega)⟩
    · have hlp := limbs_pos_len (Nat.pos_of_ne_zero hz)
      have HP := Lib.hid (CanV.nat hp (by unfold Fit; omega))
      have HQ := Lib.hid (CanV.nat hq (by unfold Fit; omega))
      clear hB
      go_wp2_with fail
      refine (rdivmod_pos HP.out HQ.out (Nat.pos_of_ne_zero hz) hla hlb).mono ?_
      rintro e w4 ⟨A4, k4, c4, A5, k5, c5, rfl, h4, h5, x4, n4, n5⟩
      have y4 := ext_alloc (ext_alloc x4 (.cells #[.slice A4 k4 c4] 30)) (.cells #[.slice A5 k5 c5] 30)
      have p5 := CanV.alloc (CanV.alloc h5 (.cells #[.slice A4 k4 c4] 30)) (.cells #[.slice A5 k5 c5] 30)
      have b5 : ((w4.alloc (.cells #[.slice A4 k4 c4] 30)).alloc (.cells #[.slice A5 k5 c5] 30)).cell? ⟨w4.heap.size + 1, 0, none⟩ = some (.slice A5 k5 c5) := by simp [go_sem]
      have hB4 := HB.out.below y4
      obtain ⟨dx, gx⟩ : ((w4.alloc (.cells #[.slice A4 k4 c4] 30)).alloc (.cells #[.slice A5 k5 c5] 30)).cell? ⟨w.heap.size, 0, none⟩ = some (.slice A k c) ∧ ((w4.alloc (.cells #[.slice A4 k4 c4] 30)).alloc (.cells #[.slice A5 k5 c5] 30)).frozen? ⟨w.heap.size, 0, none⟩ = false := hB4.cell 0 _ 0 _ rfl rfl
      obtain ⟨dy, gy⟩ : ((w4.alloc (.cells #[.slice A4 k4 c4] 30)).alloc (.cells #[.slice A5 k5 c5] 30)).cell? ⟨w.heap.size + 1, 0, none⟩ = some (.slice A' (limbsOf gk).length c') ∧ ((w4.alloc (.cells #[.slice A4 k4 c4] 30)).alloc (.cells #[.slice A5 k5 c5] 30)).frozen? ⟨w.heap.size + 1, 0, none⟩ = false := hB4.cell 1 _ 0 _ rfl rfl
      have q4 := hq.below y4
      have hszr : w.heap.size + 3 ≤ wr.heap.size := HB.out.size
      have hsz4 : w.heap.size + 3 ≤ w4.heap.size := Nat.le_trans hszr x4.size
      have n5' := n5.mono hszr
      clear h4 h5 x4 cx fx cy fy cz fz y4 HP HQ hp hq
      go_upto_region 5 with (fail)
      have HB4 := Lib.hid hB4
      generalize (w4.alloc (.cells #[.slice A4 k4 c4] 30)).alloc (.cells #[.slice A5 k5 c5] 30) = W4 at *
      have hB5 : Boxes w (W4.setCell ⟨w.heap.size, 0, none⟩ (.slice A' (limbsOf gk).length c')) [[.slice A' (limbsOf gk).length c'], [.slice A' (limbsOf gk).length c'], [.slice none 0 0]] := hB4.set 0 0 _
      have q5 := U32s.setNew (p := ⟨w.heap.size, 0, none⟩) q4 nq (by show w.heap.size < _; omega) (.slice A' (limbsOf gk).length c')
      have p5' := U32s.setNew (p := ⟨w.heap.size, 0, none⟩) p5 n5' (by show w.heap.size < _; omega) (.slice A' (limbsOf gk).length c')
      have b5' : (W4.setCell ⟨w.heap.size, 0, none⟩ (.slice A' (limbsOf gk).length c')).cell? ⟨w4.heap.size + 1, 0, none⟩ = some (.slice A5 k5 c5) := by rw [World.cell?_setCell_other _ _ _ _ (by intro h; injection h with h; omega)]; exact b5
      obtain ⟨ey, gy5⟩ : (W4.setCell ⟨w.heap.size, 0, none⟩ (.slice A' (limbsOf gk).length c')).cell? ⟨w.heap.size + 1, 0, none⟩ = some (.slice A' (limbsOf gk).length c') ∧ (W4.setCell ⟨w.heap.size, 0, none⟩ (.slice A' (limbsOf gk).length c')).frozen? ⟨w.heap.size + 1, 0, none⟩ = false := hB5.cell 1 _ 0 _ rfl rfl
      clear q4 p5 b5
      go_upto_region 6 with (fail)
      clear dx gx dy gy
      generalize W4.setCell ⟨w.heap.size, 0, none⟩ (.slice A' (limbsOf gk).length c') = W5 at *
      go_wp2
      go_roundg (a' % gk)
      case rel => exact ⟨gk, A', _, c', A5, k5, c5, hB5.set 1 0 _, U32s.setNew q5 nq (by show w.heap.size + 1 < _; omega) _, U32s.setNew p5' n5' (by show w.heap.size + 1 < _; omega) _, nq, n5', Lib.hid (by rw [Nat.gcd_comm, ← Nat.gcd_rec, Nat.gcd_comm]; exact hg.out), hlb, Nat.le_trans (limbsOf_length_mono (Nat.mod_le _ _)) hla⟩
      case measure => exact Nat.mod_lt _ (Nat.pos_of_ne_zero hz)

end Go.Proofs.YtkjcbfaimonaoaaDoor
