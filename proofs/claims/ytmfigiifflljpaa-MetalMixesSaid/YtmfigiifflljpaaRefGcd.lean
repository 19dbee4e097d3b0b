/- ref01: DivMod. ref01: DivMod of any, Gcd. -/
import Derived.Test.YtmfigiifflljpaaRefMul
import Derived.OneCell
import Derived.Deep.DeepCutAuto
import Derived.Test.YtmfigiifflljpaaNatural
import Derived.Deep.LoopGhost
set_option linter.unusedVariables false
set_option linter.unusedSimpArgs false
set_option maxRecDepth 100000
namespace Go.Proofs.Ytmfigiifflljpaa
open Go.RowKit Num

/-- A box somewhere that holds a canonical natural. -/
def BoxAt (W wx : World) (s : Value) (n : Nat) : Prop :=
  ∃ b A k c, s = .pointer (some ⟨b, 0, none⟩) ∧ wx.cell? ⟨b, 0, none⟩ = some (.slice A k c) ∧ wx.frozen? ⟨b, 0, none⟩ = false ∧ CanV wx (.slice A k c) n ∧ Ext W wx ∧ W.heap.size ≤ b ∧ b < wx.heap.size ∧ (∀ u, CanV (wx.setCell ⟨b, 0, none⟩ u) (.slice A k c) n)

theorem cons_nat {w : World} {A : Option Addr} {c x R : Nat} (hk : 1 + (limbsOf R).length ≤ c) (hm : c ≤ 9223372036854775807) (hx : x < 1000000000) (h : Reads w 1 A (1 + (limbsOf R).length) (u32s [x] ++ u32s (limbsOf R))) (hl : (limbsOf R).length ≤ 549755813887) :
    NatV w (.slice A (1 + (limbsOf R).length) c) (R * 1000000000 + x) := by
  have hlen : (x :: limbsOf R).length = 1 + (limbsOf R).length := by simp; omega
  refine ⟨x :: limbsOf R, ⟨A, c, by rw [hlen], by rw [hlen]; exact hk, hm, ?_⟩, ?_, by rw [hlen]; omega, by rw [val, val_limbsOf]; omega⟩
  · rw [hlen]
    simpa [u32s] using h
  · intro z hz
    rcases List.mem_cons.1 hz with rfl | hz
    · omega
    · have := limbsOf_digs R z hz; omega

theorem BoxAt.alloc {W w6 : World} {A : Option Addr} {k c n : Nat} (hE : Ext W w6) (h : CanV w6 (.slice A k c) n) (t : TypeId) :
    BoxAt W (w6.alloc (.cells #[.slice A k c] t)) (.pointer (some ⟨w6.heap.size, 0, none⟩)) n := by
  refine ⟨w6.heap.size, A, k, c, rfl, by simp [go_sem], by simp [go_sem], h.alloc _, ext_alloc hE _, hE.size, by simp, fun u => ?_⟩
  exact h.below (ext_set (ext_alloc (Below.refl _ _) _) (Nat.le_refl _) _)
theorem BoxAt.set {W w6 : World} {A : Option Addr} {k c n b : Nat} {u : Value} (hE : Ext W w6) (h : CanV w6 (.slice A k c) n) (hb : W.heap.size ≤ b) (hc : w6.cell? ⟨b, 0, none⟩ = some u) (hf : w6.frozen? ⟨b, 0, none⟩ = false) (hn : New (b + 1) (.slice A k c)) :
    BoxAt W (w6.setCell ⟨b, 0, none⟩ (.slice A k c)) (.pointer (some ⟨b, 0, none⟩)) n := by
  refine ⟨b, A, k, c, rfl, World.cell?_setCell_same _ _ _ hc, by rw [World.frozen?_setCell]; exact hf, U32s.setNew h hn (Nat.lt_succ_self _) _, ext_set hE hb _, hb, by simpa using World.block_lt_of_cell? _ _ hc, fun u => ?_⟩
  exact (U32s.setNew h hn (Nat.lt_succ_self _) _).setNew hn (Nat.lt_succ_self _) _

set_option maxHeartbeats 4000000 in
theorem rdivmod_big {x y : Value} {a b : Nat} {w : World} (hx : NatV w x a) (hy : NatV w y b) (hge : b ≤ a) (hb0 : 0 < b) (hl : (limbsOf a).length ≤ 549755813887) :
    Calls Try.prog 79 #[.agg #[x], .agg #[y]] w (DivModR w a b) := by
  obtain ⟨i0, hi, hz0, hz1, hz2⟩ := info_parts info_u32
  have hc : 0 ≤ cmpN a b := by have := @cmpN_neg a b; omega
  have hlp := limbs_pos_len hb0
  have hlb := limbsOf_length_mono hge
  go_enter Try.func79, Try.ntmps79
  go_upto_region 1 with (fail)
  have hB0 : Boxes w ((((w.alloc (.cells #[x] 32)).alloc (.cells #[y] 32)).alloc (.cells #[.slice none 0 0] 32)).alloc (.cells #[.slice none 0 0] 32)) [[x], [y], [.slice none 0 0], [.slice none 0 0]] := ((((Boxes.nil_ w).alloc rfl [x] 32).alloc (by simp) [y] 32).alloc (by simp) [.slice none 0 0] 32).alloc (by simp) [.slice none 0 0] 32
  generalize (((w.alloc (.cells #[x] 32)).alloc (.cells #[y] 32)).alloc (.cells #[.slice none 0 0] 32)).alloc (.cells #[.slice none 0 0] 32) = W0 at *
  have hx0 : NatV W0 x a := hx.below hB0.ext
  have HB0 := Lib.hid hB0
  obtain ⟨cx0, fx0⟩ : W0.cell? ⟨w.heap.size, 0, none⟩ = some x ∧ W0.frozen? ⟨w.heap.size, 0, none⟩ = false := hB0.cell 0 _ 0 _ rfl rfl
  clear hB0
  go_wp2_with fail
  refine (norm_n hx0).mono ?_
  intro e w1 hg
  obtain ⟨A1, c1, rfl, h1, x1, n1⟩ := hg.form
  clear hg
  have hB1 := HB0.out.below x1
  obtain ⟨cx1, fx1⟩ : w1.cell? ⟨w.heap.size, 0, none⟩ = some x ∧ w1.frozen? ⟨w.heap.size, 0, none⟩ = false := hB1.cell 0 _ 0 _ rfl rfl
  obtain ⟨cy1, fy1⟩ : w1.cell? ⟨w.heap.size + 1, 0, none⟩ = some y ∧ w1.frozen? ⟨w.heap.size + 1, 0, none⟩ = false := hB1.cell 1 _ 0 _ rfl rfl
  have HB1 := Lib.hid hB1
  clear hB1
  go_wp2_with fail
  have hB2 : Boxes w (w1.setCell ⟨w.heap.size, 0, none⟩ (.slice A1 (limbsOf a).length c1)) [[.slice A1 (limbsOf a).length c1], [y], [.slice none 0 0], [.slice none 0 0]] := HB1.out.set 0 0 _
  have hs0 : w.heap.size + 4 ≤ W0.heap.size := HB0.out.size
  have h1' := U32s.setNew (p := ⟨w.heap.size, 0, none⟩) h1 n1 (by show w.heap.size < _; omega) (.slice A1 (limbsOf a).length c1)
  have hs1 : w.heap.size + 4 ≤ (w1.setCell ⟨w.heap.size, 0, none⟩ (.slice A1 (limbsOf a).length c1)).heap.size := hB2.size
  clear cx0 fx0 cx1 fx1 cy1 fy1 HB1
  generalize w1.setCell ⟨w.heap.size, 0, none⟩ (.slice A1 (limbsOf a).length c1) = W1 at *
  obtain ⟨cy2, fy2⟩ : W1.cell? ⟨w.heap.size + 1, 0, none⟩ = some y ∧ W1.frozen? ⟨w.heap.size + 1, 0, none⟩ = false := hB2.cell 1 _ 0 _ rfl rfl
  have hy1 : NatV W1 y b := hy.below hB2.ext
  have HB2 := Lib.hid hB2
  clear hB2
  refine (norm_n hy1).mono ?_
  intro e w3 hg
  obtain ⟨A2, c2, rfl, h2, x3, n2⟩ := hg.form
  clear hg
  have hB3 := HB2.out.below x3
  obtain ⟨cy3, fy3⟩ : w3.cell? ⟨w.heap.size + 1, 0, none⟩ = some y ∧ w3.frozen? ⟨w.heap.size + 1, 0, none⟩ = false := hB3.cell 1 _ 0 _ rfl rfl
  have hB4 : Boxes w (w3.setCell ⟨w.heap.size + 1, 0, none⟩ (.slice A2 (limbsOf b).length c2)) [[.slice A1 (limbsOf a).length c1], [.slice A2 (limbsOf b).length c2], [.slice none 0 0], [.slice none 0 0]] := hB3.set 1 0 _
  have n1' : New (w.heap.size + 4) (.slice A1 (limbsOf a).length c1) := n1.mono hs0
  have n2' : New (w.heap.size + 4) (.slice A2 (limbsOf b).length c2) := n2.mono hs1
  have h1'' := U32s.setNew (p := ⟨w.heap.size + 1, 0, none⟩) (CanV.below h1' x3) n1' (by show w.heap.size + 1 < _; omega) (.slice A2 (limbsOf b).length c2)
  have h2'' := U32s.setNew (p := ⟨w.heap.size + 1, 0, none⟩) h2 n2' (by show w.heap.size + 1 < _; omega) (.slice A2 (limbsOf b).length c2)
  clear hB3 cy2 fy2 h1' h2 h1
  go_upto_region 3 with (fail)
  generalize w3.setCell ⟨w.heap.size + 1, 0, none⟩ (.slice A2 (limbsOf b).length c2) = W2 at *
  have h1' : CanV W2 (.slice A1 (limbsOf a).length c1) a := h1''
  have h2' : CanV W2 (.slice A2 (limbsOf b).length c2) b := h2''
  clear h1'' h2'' n1 n2 hs0 hs1 x1 x3 cy3 fy3 hx0 hy1 HB0 HB2 hx hy
  clear w3 W1 w1 W0
  obtain ⟨cx, fx⟩ : W2.cell? ⟨w.heap.size, 0, none⟩ = some (.slice A1 (limbsOf a).length c1) ∧ W2.frozen? ⟨w.heap.size, 0, none⟩ = false := hB4.cell 0 _ 0 _ rfl rfl
  obtain ⟨cy, fy⟩ : W2.cell? ⟨w.heap.size + 1, 0, none⟩ = some (.slice A2 (limbsOf b).length c2) ∧ W2.frozen? ⟨w.heap.size + 1, 0, none⟩ = false := hB4.cell 1 _ 0 _ rfl rfl
  have hE : Ext w W2 := hB4.ext
  have HB := Lib.hid hB4
  clear hB4
  have n1 : New (w.heap.size + 4) (.slice A1 (limbsOf a).length c1) := n1'
  clear n1'
  go_wp2_with fail
  refine (rcmp_n (CanV.nat h1' (by unfold Fit; omega)) (CanV.nat h2' (by unfold Fit; omega))).mono ?_
  rintro e w1 ⟨rfl, x1⟩
  have h1 := h1'.below x1
  have h2 := h2'.below x1
  have hB1 := HB.out.below x1
  clear h1' h2' cx fx cy fy HB hE x1
  clear W2
  obtain ⟨cx, fx⟩ : w1.cell? ⟨w.heap.size, 0, none⟩ = some (.slice A1 (limbsOf a).length c1) ∧ w1.frozen? ⟨w.heap.size, 0, none⟩ = false := hB1.cell 0 _ 0 _ rfl rfl
  obtain ⟨cy, fy⟩ : w1.cell? ⟨w.heap.size + 1, 0, none⟩ = some (.slice A2 (limbsOf b).length c2) ∧ w1.frozen? ⟨w.heap.size + 1, 0, none⟩ = false := hB1.cell 1 _ 0 _ rfl rfl
  have HB := Lib.hid hB1
  clear hB1
  generalize cmpN a b = c at *
  obtain ⟨lb, t, elb, ht0, ht1, hbt1, hbt2⟩ := top_bounds (n := b) (by omega)
  have hs0 : 0 < 1000000000 / (t + 1) := Nat.div_pos (by omega) (by omega)
  have hs1 : 1000000000 / (t + 1) < 1000000000 := Nat.div_lt_self (by omega) (by omega)
  have hbl : (limbsOf b).length = lb.length + 1 := by rw [elb]; simp
  have hbc := h2
  unfold CanV at hbc
  rw [elb] at hbc
  rw [show (lb ++ [t]).length = lb.length + 1 from by simp] at hbc
  rw [hbl] at cy hlp hlb h2 n2' ⊢
  obtain ⟨ab, hab, hbb, hcb⟩ := hbc.cell (k := lb.length) (by simp)
  rw [show (lb ++ [t]).getD lb.length 0 = t from by simp [List.getD]] at hcb
  subst hab
  go_upto_region 9 with (fail)
  have es : (1000000000 / ((t : Int) + 1)) = ((1000000000 / (t + 1) : Nat) : Int) := by simp
  rw [es]
  clear es hcb hbb
  have hst : b * (1000000000 / (t + 1)) < 1000000000 ^ (lb.length + 1) := by
    have e1 : b * (1000000000 / (t + 1)) < 1000000000 ^ lb.length * (t + 1) * (1000000000 / (t + 1)) := Nat.mul_lt_mul_of_pos_right hbt2 hs0
    have e2 : (t + 1) * (1000000000 / (t + 1)) ≤ 1000000000 := Nat.mul_div_le _ _
    have e3 := Nat.mul_le_mul_left (1000000000 ^ lb.length) e2
    rw [Nat.mul_assoc] at e1
    rw [Nat.pow_succ]
    omega
  generalize 1000000000 / (t + 1) = s at *
  have HST := Lib.hid hst
  have HT1 := Lib.hid hbt1
  clear hst hbt1 hbt2
  have hsl : (limbsOf s).length = 1 := by rw [limbsOf_one hs0 hs1]; rfl
  have HSL := Lib.hid hsl
  clear hsl
  have hSa : ∀ w', Ext w1 w' → w'.cell? ⟨w.heap.size, 0, none⟩ = some (.slice A1 (limbsOf a).length c1) := fun w' h => ((HB.out.below h).cell 0 _ 0 _ rfl rfl).1
  have hSb : ∀ w', Ext w1 w' → w'.cell? ⟨w.heap.size + 1, 0, none⟩ = some (.slice (some ab) (lb.length + 1) c2) := fun w' h => by rw [← hbl]; exact ((HB.out.below h).cell 1 _ 0 _ rfl rfl).1
  have hNa : ∀ w', Ext w1 w' → NatV w' (.slice A1 (limbsOf a).length c1) a := fun w' h => (h1.below h).nat (by unfold Fit; omega)
  have hNb : ∀ w', Ext w1 w' → NatV w' (.slice (some ab) (lb.length + 1) c2) b := fun w' h => (h2.below h).nat (by unfold Fit; omega)
  have HSa := Lib.hid hSa
  have HSb := Lib.hid hSb
  clear hSa hSb
  go_cut [9] (fun s9 wx => BoxAt w1 wx s9 (a * s))
  case first =>
    go_region_held3 (fun w' => w'.cell? ⟨w.heap.size, 0, none⟩ = some (.slice A1 (limbsOf a).length c1))
      (exact HSa.out _ (by repeat first | assumption | exact Below.refl _ _ | refine ext_alloc ?_ _ | refine ext_drew ?_ | refine ext_set ?_ (by first | omega | (simp; done) | (simp; omega)) _))
      (first
        | (go_at_call 82; (with_reducible refine (rof_n (n := s) (by omega)).mono ?_); rintro e w5 ⟨A5, k5, c5, rfl, h5, x5, n5⟩; obtain ⟨hc5, hf5⟩ := bcell x5; have y5 := x5.size; (try simp at y5); (try (have q5 : w1.heap.size < w5.heap.size := by omega)); have e5 : Ext w1 w5 := Ext.trans (by repeat first | assumption | exact Below.refl _ _ | refine ext_alloc ?_ _ | refine ext_drew ?_ | refine ext_set ?_ (by first | omega | (simp; done) | (simp; omega)) _) x5)
        | (go_at_call 59; (with_reducible refine (rmul_n (hNa _ (by repeat first | assumption | exact Below.refl _ _ | refine ext_alloc ?_ _ | refine ext_drew ?_ | refine ext_set ?_ (by first | omega | (simp; done) | (simp; omega)) _)) (NatV.below (CanV.nat h5 (by unfold Fit; rw [HSL.out]; omega)) (by repeat first | assumption | exact Below.refl _ _ | refine ext_alloc ?_ _ | refine ext_drew ?_ | refine ext_set ?_ (by first | omega | (simp; done) | (simp; omega)) _)) (by rw [HSL.out]; omega)).mono ?_); rintro e w6 ⟨A6, k6, c6, rfl, h6, x6, n6⟩; obtain ⟨hc6, hf6⟩ := bcell x6; have y6 := x6.size; (try simp at y6); have e6 : Ext w1 w6 := Ext.trans (by repeat first | assumption | exact Below.refl _ _ | refine ext_alloc ?_ _ | refine ext_drew ?_ | refine ext_set ?_ (by first | omega | (simp; done) | (simp; omega)) _) x6))
    all_goals go_wp2
    all_goals go_meet
    all_goals first
      | exact BoxAt.alloc e6 h6 _
      | ((refine BoxAt.set (u := .slice none 0 0) e6 h6 ?_ ?_ ?_ (n6.mono ?_)) <;> first | omega | (simp; done) | (simp; omega) | (simp [hc6, go_sem]; done) | (simp [hf6, go_sem]; done) | (simp [hc6, hc5, q5, go_sem]; done) | (simp [hf6, hf5, q5, go_sem]; done))
  case rest =>
    obtain ⟨bx, Ax, kx, cxx, rfl, hbx, hfx, hCx, hEx, hlx, hltx, hsx⟩ := hcut
    obtain ⟨wX, hwX⟩ : ∃ wX : World, wX = wc := ⟨_, rfl⟩
    subst hwX
    go_upto_region 10 with (fail)
    go_cut [10] (fun s10 wy => BoxAt wX wy s10 (b * s))
    case first =>
      go_region_held3 (fun w' => w'.cell? ⟨w.heap.size + 1, 0, none⟩ = some (.slice (some ab) (lb.length + 1) c2))
        (exact HSb.out _ (by repeat first | assumption | exact Below.refl _ _ | refine ext_alloc ?_ _ | refine ext_drew ?_ | refine ext_set ?_ (by first | omega | (simp; done) | (simp; omega)) _))
        (first
          | (go_at_call 82; (with_reducible refine (rof_n (n := s) (by omega)).mono ?_); rintro e w5 ⟨A5, k5, c5, rfl, h5, x5, n5⟩; obtain ⟨hc5, hf5⟩ := bcell x5; have y5 := x5.size; (try simp at y5); (try (have q5 : wX.heap.size < w5.heap.size := by omega)); have e5 : Ext wX w5 := Ext.trans (by repeat first | assumption | exact Below.refl _ _ | refine ext_alloc ?_ _ | refine ext_drew ?_ | refine ext_set ?_ (by first | omega | (simp; done) | (simp; omega)) _) x5; have g5 : Ext w1 w5 := hEx.trans e5)
          | (go_at_call 59; (with_reducible refine (rmul_n (hNb _ (by repeat first | assumption | exact Below.refl _ _ | refine ext_alloc ?_ _ | refine ext_drew ?_ | refine ext_set ?_ (by first | omega | (simp; done) | (simp; omega)) _)) (NatV.below (CanV.nat h5 (by unfold Fit; rw [HSL.out]; omega)) (by repeat first | assumption | exact Below.refl _ _ | refine ext_alloc ?_ _ | refine ext_drew ?_ | refine ext_set ?_ (by first | omega | (simp; done) | (simp; omega)) _)) (by rw [HSL.out, hbl]; omega)).mono ?_); rintro e w6 ⟨A6, k6, c6, rfl, h6, x6, n6⟩; obtain ⟨hc6, hf6⟩ := bcell x6; have y6 := x6.size; (try simp at y6); have e6 : Ext wX w6 := Ext.trans (by repeat first | assumption | exact Below.refl _ _ | refine ext_alloc ?_ _ | refine ext_drew ?_ | refine ext_set ?_ (by first | omega | (simp; done) | (simp; omega)) _) x6; have g6 : Ext w1 w6 := hEx.trans e6))
      all_goals go_wp2
      all_goals go_meet
      all_goals first
        | exact BoxAt.alloc e6 h6 _
        | ((refine BoxAt.set (u := .slice none 0 0) e6 h6 ?_ ?_ ?_ (n6.mono ?_)) <;> first | omega | (simp; done) | (simp; omega) | (simp [hc6, go_sem]; done) | (simp [hf6, go_sem]; done) | (simp [hc6, hc5, q5, go_sem]; done) | (simp [hf6, hf5, q5, go_sem]; done))
    case rest =>
      obtain ⟨bY, Ay, ky, cyy, rfl, hbY, hfY, hCy, hEy, hly, hlty, hsy⟩ := hcut
      obtain ⟨wY, hwY⟩ : ∃ wY : World, wY = wc := ⟨_, rfl⟩
      subst hwY
      have hV0 : b * s ≠ 0 := Nat.mul_ne_zero (by omega) (by omega)
      have hVb : b ≤ b * s := Nat.le_mul_of_pos_right _ hs0
      have hdm : a * s / (b * s) = a / b ∧ a * s % (b * s) = a % b * s := ⟨Nat.mul_div_mul_right _ _ hs0, Nat.mul_mod_mul_right _ _ _⟩
      have HDM := Lib.hid hdm
      have hrl0 : (limbsOf (a % b * s)).length ≤ 1099511627775 := by
        have e1 := limbsOf_length_mul (a % b) s
        have e2 := limbsOf_length_mono (Nat.mod_le a b)
        rw [HSL.out] at e1
        omega
      have HRL := Lib.hid hrl0
      have hUl : (limbsOf (a * s)).length ≤ 1099511627775 := by
        have e1 := limbsOf_length_mul a s
        rw [HSL.out] at e1
        omega
      obtain ⟨lv, tv, elv, htv0, htv1, hbv1, hbv2⟩ := top_bounds hV0
      have hVlen : (limbsOf (b * s)).length = lv.length + 1 := by rw [elv]; simp
      have hlvb : lv.length = lb.length := by
        have e1 := limbsOf_length_le HST.out
        have e2 := limbsOf_length_mono hVb
        omega
      have hlvl : lv.length + 1 ≤ 549755813887 := by omega
      rw [← hlvb] at *
      clear hrl0 hdm hV0 hVb HST HT1 hNa hNb HSa HSb hlvb
      have hVpos : 0 < b * s := Nat.mul_pos hb0 hs0
      generalize b * s = V at *
      generalize a * s = U at *
      have hcx3 : wY.cell? ⟨bx, 0, none⟩ = some (.slice Ax kx cxx) := (hEy.cell (p := ⟨bx, 0, none⟩) hltx).trans hbx
      have hCx3 := hCx.below hEy
      obtain ⟨A', c', e, ku2, ku3, ku4⟩ := id hCx3
      injection e with e1 e2 e3
      subst e1 e2 e3
      obtain ⟨A', c', e, kv2, kv3, kv4⟩ := id hCy
      injection e with e1 e2 e3
      subst e1 e2 e3
      have hCy0 := hCy
      unfold CanV at hCy0
      rw [elv] at hCy0
      rw [hVlen] at hbY hCy kv2 hsy
      have hCyt : U32s wY (.slice Ay (lv.length + 1) cyy) (lv ++ [tv]) := by
        have := hCy0
        rwa [show (lv ++ [tv]).length = lv.length + 1 from by simp] at this
      obtain ⟨av, hav, hav1, hcv⟩ := hCyt.cell (k := lv.length) (by simp)
      rw [show (lv ++ [tv]).getD lv.length 0 = tv from by simp [List.getD]] at hcv
      subst hav
      have HVL := Lib.hid hVlen
      clear hVlen
      have dU := limbsOf_digs U
      have vU := val_limbsOf U
      generalize limbsOf U = xs at *
      have HVU := Lib.hid vU
      clear vU
      go_wp2_with (first | (at_make; refine wpList_make_full _ rfl _ _ 30 rfl wY.heap.size 76 i0 (.int .u32 0) 1 Try.underlying30 hi hz0 hz1 _ _ _ _ xs.length rfl rfl (by omega) (by omega) ?b1 ?b2 ?b3 ?_) | fail)
      case b1 => rw [hz2]; omega
      case b2 => unfold maxLen; omega
      case b3 => exact Nat.le_refl _
      intro w4 hown hgrow
      rw [u32s_replicate] at hown
      have hb4 : Ext wY w4 := (Below.refl _ _).grown hgrow (Nat.le_refl _) (by simp)
      have hq4 : wY.heap.size < w4.heap.size := (hown.lt _ rfl).2
      clear hgrow
      have hcx4 : w4.cell? ⟨bx, 0, none⟩ = some (.slice Ax xs.length cxx) := by rw [hb4.cell (p := ⟨bx, 0, none⟩) (by show bx < _; have := hEy.size; omega)]; exact hcx3
      have m0 : bx < w4.heap.size := World.block_lt_of_cell? _ _ hcx4
      have m0' : bx ≠ w4.heap.size := Nat.ne_of_lt m0
      go_wp2
      have hb5 : Ext wY (w4.alloc (.cells #[.slice none 0 0] 32)) := ext_alloc hb4 _
      have hown5 := hown.alloc (.cells #[.slice none 0 0] 32)
      go_loopw [14] (fun iv wr => ∃ (k : Nat) (os : List Nat) (R : Nat) (rA : Option Addr) (rk rc : Nat), k ≤ xs.length ∧ iv = .int .i64 ((k : Int) - 1) ∧
          wr.ownsRow wY.heap.size 76 1 (.slice (some ⟨wY.heap.size, 0, none⟩) xs.length xs.length) xs.length (u32s os) ∧ wr.cell? ⟨w4.heap.size, 0, none⟩ = some (.slice rA rk rc) ∧ wr.frozen? ⟨w4.heap.size, 0, none⟩ = false ∧
          CanV wr (.slice rA rk rc) R ∧ Ext wY wr ∧ New (w4.heap.size + 1) (.slice rA rk rc) ∧ ShortAt xs V k os R)
        (fun iv _ => (intOf iv + 1).toNat)
      case atStart => exact ⟨xs.length, _, 0, none, 0, 0, Nat.le_refl _, by go_num, hown5, by simp [go_sem], by simp [go_sem], CanV.nil_ _, hb5, New.nil_ _, ShortAt.start xs hVpos⟩
      case round =>
        obtain ⟨k, os, R, rA, rk, rc, hk, rfl, hown1, hcr, hfr, hCr, hbr, hnr, hat⟩ := hrel
        have hlt4 : w4.heap.size < wr.heap.size := World.block_lt_of_cell? _ _ hcr
        have hcxr : wr.cell? ⟨bx, 0, none⟩ = some (.slice Ax xs.length cxx) := by rw [hbr.cell (p := ⟨bx, 0, none⟩) (by show bx < _; have := hEy.size; omega)]; exact hcx3
        obtain ⟨wo, hwo⟩ : ∃ wo : World, wo = wr := ⟨_, rfl⟩
        subst hwo
        cases k with
        | zero =>
          have hdone := hat.done
          rw [HVU.out] at hdone
          have hrs : R = a % b * s := by rw [hdone.2]; exact HDM.out.2
          have hqs : val os = a / b := by rw [hdone.1]; exact HDM.out.1
          have HQS := Lib.hid hqs
          have HRS := Lib.hid hrs
          have HRV := Lib.hid (show val (limbsOf R) / s = a % b from by rw [val_limbsOf, hrs, Nat.mul_div_cancel _ hs0])
          have hqd := hat.digs
          have hql : os.length = xs.length := hat.len
          have HQL := Lib.hid hql
          have HQD := Lib.hid hqd
          have hRl : (limbsOf R).length ≤ lv.length + 1 := by
            have := limbsOf_length_mono (Nat.le_of_lt hat.small)
            rw [HVL.out] at this
            exact this
          clear hdone hrs hqs hqd hql hat
          obtain ⟨rA', rc', e, r2, r3, r4⟩ := id hCr
          injection e with e1 e2 e3
          subst e1 e2 e3
          have dR := limbsOf_digs R
          generalize limbsOf R = rs at *
          go_wp2_with (first | (at_make; refine wpList_make_full _ rfl _ _ 30 rfl wo.heap.size 76 i0 (.int .u32 0) 1 Try.underlying30 hi hz0 hz1 _ _ _ _ rs.length rfl rfl (by omega) (by omega) ?b4 ?b5 ?b6 ?_) | fail)
          case b4 => rw [hz2]; omega
          case b5 => unfold maxLen; omega
          case b6 => exact Nat.le_refl _
          intro w5 hownS hgrow5
          rw [u32s_replicate] at hownS
          have hb5' : Ext wo w5 := (Below.refl _ _).grown hgrow5 (Nat.le_refl _) (by simp)
          clear hgrow5
          have HCR := Lib.hid (fun (w' : World) (h : Ext wo w') => (h.cell (p := ⟨w4.heap.size, 0, none⟩) hlt4).trans hcr)
          have hcr5 := HCR.out _ hb5'
          go_wp2
          go_loopw [18, 19] (fun cv iv wr => ∃ (k r : Nat) (qs : List Nat), k ≤ rs.length ∧ iv = .int .i64 ((k : Int) - 1) ∧ cv = .int .u64 r ∧
              wr.ownsRow wo.heap.size 76 1 (.slice (some ⟨wo.heap.size, 0, none⟩) rs.length rs.length) rs.length (u32s qs) ∧ Ext wo wr ∧ ShortAt rs s k qs r)
            (fun _ iv _ => (intOf iv + 1).toNat)
          case atStart => exact ⟨rs.length, 0, _, Nat.le_refl _, by go_num, rfl, hownS, hb5', ShortAt.start rs hs0⟩
          case round =>
            obtain ⟨k, r, qs, hk, rfl, rfl, hownQ, hbq, hat⟩ := hrel
            have hcrq := HCR.out _ hbq
            cases k with
            | succ k =>
              rw [show (((k + 1 : Nat) : Int) - 1) = (k : Int) from by omega]
              have hxk := dR.getD k
              have hdg := hat.digit dR
              have hsm := hat.small
              have hol := Lib.hid hat.len
              have hst := Lib.hid (hat.step dR (by omega))
              obtain ⟨ad, u, rfl, hb, hu, hcl⟩ := (r4.below hbq).at_ (k := k) (by omega)
              have hu2 : u = .int .u32 (rs.getD k 0 : Nat) := by simpa [u32s, List.getD, show k < rs.length by omega] using hu.symm
              subst hu2
              clear hu hat
              have hcq : wr.cell? ⟨wo.heap.size, k, none⟩ = some (.int .u32 (qs.getD k 0 : Nat)) := by rw [hownQ.cellAt k (by omega), u32s_get qs _ (by rw [hol.out]; omega)]
              have hfq : wr.frozen? ⟨wo.heap.size, k, none⟩ = false := hownQ.frozenAt _
              generalize rs.getD k 0 = x at *
              generalize qs.getD k 0 = o at *
              have hi0 : 0 ≤ ((r : Int) * 1000000000 + x) / s := Int.ediv_nonneg (by omega) (by omega)
              have hi1 : ((r : Int) * 1000000000 + x) / s < 1000000000 := by have := Int.ofNat_lt.2 hdg; simpa using this
              have hi2 : 0 ≤ ((r : Int) * 1000000000 + x) % s := Int.emod_nonneg _ (by omega)
              have hi3 : ((r : Int) * 1000000000 + x) % s < s := Int.emod_lt_of_pos _ (by omega)
              clear hdg
              go_wp2
              go_roundw
              case rel =>
                have hs := (hownQ.stored k (.int .u32 (((r : Int) * 1000000000 + x) / s))).1
                have e : (((r : Int) * 1000000000 + x) / s) = (((r * 1000000000 + x) / s : Nat) : Int) := by simp
                rw [e, u32s_set] at hs
                exact ⟨k, _, _, by omega, by go_num, by go_num, by rw [e]; exact hs, hbq.setCell (Nat.le_refl _) _, hst.out⟩
              case measure => simp [intOf]; try omega
            | zero =>
              have hdn := Lib.hid (hat.done.1.trans HRV.out)
              have hqsd := hat.digs
              have hqsl : qs.length = rs.length := hat.len
              have hownq1 := World.ownsRow.kept hown1 (Ext.grown hbq) (.inr (by simp [Value.ownBlock]))
              have HN1 := Lib.hid (show NatV wr (.slice (some ⟨wY.heap.size, 0, none⟩) xs.length xs.length) (a / b) from ⟨os, U32s.of_own hownq1 (Nat.le_refl _) (by omega), fun x hx => by have := HQD.out x hx; omega, by rw [HQL.out]; omega, HQS.out⟩)
              have HN2 := Lib.hid (show NatV wr (.slice (some ⟨wo.heap.size, 0, none⟩) rs.length rs.length) (a % b) from ⟨qs, U32s.of_own hownQ (Nat.le_refl _) (by omega), fun x hx => by have := hqsd x hx; omega, by omega, hdn.out⟩)
              clear hqsd hat
              go_wp2_with fail
              refine (norm_n HN1.out).mono ?_
              rintro e w6 ⟨A6, k6, c6, rfl, h6, x6, n6⟩
              go_wp2_with fail
              refine (norm_n (NatV.below HN2.out x6)).mono ?_
              rintro e w7 ⟨A7, k7, c7, rfl, h7, x7, n7⟩
              have E7 : Ext w1 w7 := hEx.trans (hEy.trans (hbr.trans (hbq.trans (x6.trans x7))))
              have hB7 := HB.out.below E7
              obtain ⟨cz, fz⟩ : w7.cell? ⟨w.heap.size + 1 + 1, 0, none⟩ = some (.slice none 0 0) ∧ w7.frozen? ⟨w.heap.size + 1 + 1, 0, none⟩ = false := hB7.cell 2 _ 0 _ rfl rfl
              obtain ⟨cu, fu⟩ : w7.cell? ⟨w.heap.size + 1 + 1 + 1, 0, none⟩ = some (.slice none 0 0) ∧ w7.frozen? ⟨w.heap.size + 1 + 1 + 1, 0, none⟩ = false := hB7.cell 3 _ 0 _ rfl rfl
              have hE7 := hB7.ext
              have hz1 := HB.out.size
              have h6' := CanV.below h6 x7
              have hsz : w.heap.size + 4 ≤ wr.heap.size := by
                have e1 := HB.out.size
                have e2 := (hEx.trans (hEy.trans (hbr.trans hbq))).size
                simp at e1
                omega
              have n6' : New (w.heap.size + 4) (.slice A6 k6 c6) := n6.mono hsz
              have n7' : New (w.heap.size + 4) (.slice A7 k7 c7) := n7.mono (by have := x6.size; omega)
              clear hB7
              go_wp2
              refine bodyPost_ret (v := .tuple #[.agg #[.slice A6 k6 c6], .agg #[.slice A7 k7 c7], .int .i64 0]) (by obtain ⟨e1, e2⟩ := two_cells (u := .slice A6 k6 c6) (v := .slice A7 k7 c7) cz cu (by simp); simp [results, Try.results79, go_sem, e1, e2]) rfl ?_
              refine ⟨_, _, _, _, _, _, rfl, ?_, ?_, (hE7.setCell (by show w.heap.size ≤ w.heap.size + 1 + 1; omega) _).setCell (by show w.heap.size ≤ w.heap.size + 1 + 1 + 1; omega) _, n6'.mono (by omega), n7'.mono (by omega)⟩
              · exact U32s.setNew (U32s.setNew h6' n6' (by show w.heap.size + 1 + 1 < _; omega) _) n6' (by show w.heap.size + 1 + 1 + 1 < _; omega) _
              · exact U32s.setNew (U32s.setNew h7 n7' (by show w.heap.size + 1 + 1 < _; omega) _) n7' (by show w.heap.size + 1 + 1 + 1 < _; omega) _
        | succ k =>
          rw [show (((k + 1 : Nat) : Int) - 1) = (k : Int) from by omega]
          have hxl : k < xs.length := by omega
          obtain ⟨ax, u, hax, haxb, hu, hcxi⟩ := (ku4.below hbr).at_ (k := k) hxl
          rw [u32s_get _ _ hxl] at hu
          cases hu
          subst hax
          have hdig := dU.getD k
          have hQd := hat.digit dU
          have hstp := hat.step dU hxl
          generalize xs.getD k 0 = xk at *
          have HQD := Lib.hid hQd
          have HSTP := Lib.hid hstp
          clear hQd hstp
          have hRs := hat.small
          obtain ⟨rA', rc', e, r2, r3, r4⟩ := id hCr
          injection e with e1 e2 e3
          subst e1 e2 e3
          have hRl : (limbsOf R).length ≤ lv.length + 1 := by
            have := limbsOf_length_mono (Nat.le_of_lt hRs)
            rw [HVL.out] at this
            exact this
          have m1 : bx ≠ wo.heap.size := Nat.ne_of_lt (World.block_lt_of_cell? _ _ hcxr)
          have m2 : (ax.add k).block ≠ wo.heap.size := Nat.ne_of_lt (World.block_lt_of_cell? _ _ hcxi)
          have m3 : w4.heap.size ≠ wo.heap.size := Nat.ne_of_lt hlt4
          go_upto_region 17 with (fail)
          go_cut [] (fun wx => ∃ A k' c', wx.cell? ⟨w4.heap.size, 0, none⟩ = some (.slice A k' c') ∧ wx.frozen? ⟨w4.heap.size, 0, none⟩ = false ∧ CanV wx (.slice A k' c') (R * 1000000000 + xk) ∧ Ext wY wx ∧ New (w4.heap.size + 1) (.slice A k' c') ∧
            wx.ownsRow wY.heap.size 76 1 (.slice (some ⟨wY.heap.size, 0, none⟩) xs.length xs.length) xs.length (u32s os))
          case first =>
            have hlit : ∀ W : World, Reads (W.alloc (.cells #[.int .u32 (xk : Int)] 76)) 1 (some ⟨W.heap.size, 0, none⟩) 1 (u32s [xk]) := fun W => by
              obtain ⟨_, _, e, _, _, h⟩ := U32s.lit W (xk)
              injection e with e1 e2 e3
              subst e1
              exact h
            have HLIT := Lib.hid hlit
            clear hlit
            go_region_law (first
              | (refine step_append_full _ (by rfl) (.tmp 79) (.tmp 81) 30 (by rfl) 76 i0 (.int .u32 0) 1 4 Try.underlying30 hi hz0 hz1 hz2 rfl (by omega) (some ⟨wo.heap.size, 0, none⟩) rA 1 (limbsOf R).length rc (u32s [xk]) (u32s (limbsOf R)) (by rfl) (by rfl) (Reads.drew (HLIT.out wo)) (Reads.drew (Reads.alloc r4 _)) (u32s_oneCell _) (by unfold maxLen; omega) (by omega) ?_
                 intro ao' cap' w6 k1 k2 k3 k4 k5)
              | (go_simp
                 go_at_call 80
                 refine (norm_n (cons_nat k1 k2 hdig k3 (by omega))).mono ?_
                 rintro e w7 ⟨A7, k7, c7, rfl, h7, x7, n7⟩
                 have e6 : Ext wo w6 := Ext.trans (by repeat first | assumption | exact Below.refl _ _ | refine ext_alloc ?_ _ | refine ext_drew ?_) k4
                 have e7 := e6.trans x7
                 have cc7 := (e7.cell (p := ⟨w4.heap.size, 0, none⟩) hlt4).trans hcr
                 have ff7 := (e7.frozen (p := ⟨w4.heap.size, 0, none⟩) hlt4).trans hfr))
            all_goals go_wp2
            all_goals go_meet
            all_goals exact ⟨A7, k7, c7, World.cell?_setCell_same _ _ _ cc7, by rw [World.frozen?_setCell]; exact ff7, U32s.setNew h7 n7 (by have := e6.size; show w4.heap.size < _; (try simp); omega) _, (hbr.trans e7).setCell (by show wY.heap.size ≤ w4.heap.size; omega) _, n7.mono (by have := e6.size; (try simp); omega), ownsRow_setCell_other (World.ownsRow.kept hown1 (Ext.grown e7) (.inr (by simp [Value.ownBlock]))) (by simp [Value.ownBlock]; omega) _⟩
          case rest =>
            clear hown1 hcr hfr hCr hbr hnr hat r2 r3 r4 hcxi haxb m1 m2 m3 hRl
            obtain ⟨pA, pk, pc, hcR, hfR, hCR, hxR, hnR, hownR⟩ := hcut
            obtain ⟨wp, hwp⟩ : ∃ wp : World, wp = wc := ⟨_, rfl⟩
            subst hwp
            have hPV : R * 1000000000 + xk < V * 1000000000 := by
              have : (R + 1) * 1000000000 ≤ V * 1000000000 := Nat.mul_le_mul_right _ hRs
              omega
            generalize hPe : R * 1000000000 + xk = P at *
            clear hPe
            obtain ⟨pA', pc', e, hr2, hr3, _⟩ := id hCR
            injection e with e1 e2 e3
            subst e1 e2 e3
            have hPl : (limbsOf P).length ≤ lv.length + 2 := by
              refine limbsOf_length_le ?_
              have e1 : V * 1000000000 < 1000000000 ^ lv.length * (tv + 1) * 1000000000 := Nat.mul_lt_mul_of_pos_right hbv2 (by omega)
              have e2 : 1000000000 ^ lv.length * (tv + 1) * 1000000000 ≤ 1000000000 ^ lv.length * 1000000000 * 1000000000 := Nat.mul_le_mul_right _ (Nat.mul_le_mul_left _ (by omega))
              rw [Nat.pow_succ, Nat.pow_succ]
              exact Nat.lt_trans hPV (Nat.lt_of_lt_of_le e1 e2)
            have hltb : w4.heap.size < wp.heap.size := World.block_lt_of_cell? _ _ hcR
            have hcV : wp.cell? ⟨bY, 0, none⟩ = some (.slice (some av) (lv.length + 1) cyy) := (hxR.cell (p := ⟨bY, 0, none⟩) hlty).trans hbY
            have hltV : bY < wp.heap.size := World.block_lt_of_cell? _ _ hcV
            have hcvp : wp.cell? (av.add lv.length) = some (.int .u32 (tv : Int)) := (hxR.cell (by rw [block_of_add]; exact hav1)).trans hcv
            have hVp := hCy.below hxR
            have HBV := Lib.hid (⟨hbv1, hbv2⟩ : _ ∧ _)
            have HPV := Lib.hid hPV
            clear hbv1 hbv2 hPV
            have hPB := Lib.hid (show P / V ≤ 999999999 from by have := HQD.out; omega)
            go_upto_if 89 with (fail)
            go_cut [15] (fun gv wx => wp = wx ∧ ∃ g0 : Nat, gv = .int .u64 g0 ∧ Hid (g0 = if (limbsOf P).length ≤ lv.length + 1 then 0 else (limbsOf P).getD (lv.length + 1) 0 * 1000000000) ∧ g0 ≤ 999999999000000000)
            case first =>
              by_cases hl : (limbsOf P).length ≤ lv.length + 1
              · go_wp2_with fail
                go_meet
                case rel => exact ⟨rfl, 0, rfl, Lib.hid (by rw [if_pos hl]), by omega⟩
              · obtain ⟨ap, hA, _, hcell⟩ := U32s.cell hCR (k := lv.length + 1) (by omega)
                subst hA
                have hdp := (limbsOf_digs P).getD (lv.length + 1)
                have HL := Lib.hid (show ∀ z, z = (limbsOf P).getD (lv.length + 1) 0 → z * 1000000000 = if (limbsOf P).length ≤ lv.length + 1 then 0 else (limbsOf P).getD (lv.length + 1) 0 * 1000000000 from fun z hz => by rw [if_neg hl, hz])
                obtain ⟨p1, hp1⟩ : ∃ p1, p1 = (limbsOf P).getD (lv.length + 1) 0 := ⟨_, rfl⟩
                rw [← hp1] at hcell hdp
                have hcell2 : wp.cell? ⟨ap.block, ap.off + (lv.length + 1), none⟩ = some (.int .u32 (p1 : Int)) := by simpa [Addr.add] using hcell
                have HP1 := Lib.hid hp1
                clear hp1
                go_wp2_with fail
                go_meet
                case rel => exact ⟨rfl, p1 * 1000000000, by go_num, Lib.hid (HL.out p1 HP1.out), by omega⟩
            case rest =>
              obtain ⟨rfl, g0, rfl, HG0, hg0⟩ := hcut
              go_upto_if 101 with (fail)
              go_cut [15] (fun gv wx => wp = wx ∧ ∃ g : Nat, gv = .int .u64 g ∧ P / V ≤ g ∧ g ≤ 999999999)
              case first =>
                by_cases hl : (limbsOf P).length ≤ lv.length
                · have HZ := Lib.hid (show P / V = 0 from by
                    refine Nat.div_eq_of_lt ?_
                    have a1 := limbsOf_lt P
                    have a2 : 1000000000 ^ (limbsOf P).length ≤ 1000000000 ^ lv.length := Nat.pow_le_pow_right (by omega) hl
                    have a3 : 1000000000 ^ lv.length ≤ 1000000000 ^ lv.length * tv := Nat.le_mul_of_pos_right _ (by omega)
                    have a4 := HBV.out.1
                    omega)
                  obtain rfl : g0 = 0 := by have := HG0.out; rw [if_pos (by omega)] at this; exact this
                  go_wp2_with fail
                  go_meet
                  case rel => exact ⟨rfl, 0, rfl, by rw [HZ.out]; exact Nat.le_refl _, by omega⟩
                · obtain ⟨ap, hA, _, hcell⟩ := U32s.cell hCR (k := lv.length) (by omega)
                  subst hA
                  have hdp := (limbsOf_digs P).getD lv.length
                  have HT := Lib.hid (top_guess (P := P) (n := lv.length) (by omega) hPl)
                  rw [← HG0.out] at HT
                  generalize (limbsOf P).getD lv.length 0 = p0 at *
                  have HQ := Lib.hid (guess_ge htv0 HBV.out.1 HT.out)
                  have hgq0 : 0 ≤ ((g0 : Int) + p0) / tv := Int.ediv_nonneg (by omega) (by omega)
                  have hgq1 : ((g0 : Int) + p0) / tv < 1000000000000000000 := Int.lt_of_le_of_lt (Int.ediv_le_self _ (by omega)) (by omega)
                  by_cases hbig : (999999999 : Int) < ((g0 : Int) + p0) / tv
                  · clear hgq0 hgq1
                    go_wp2_with fail
                    go_meet
                    case rel => exact ⟨rfl, 999999999, rfl, hPB.out, by omega⟩
                  · clear hgq0 hgq1
                    go_wp2_with fail
                    go_meet
                    case rel => exact ⟨rfl, (g0 + p0) / tv, by simp, HQ.out, by rw [← Int.ofNat_le]; simp; omega⟩
              case rest =>
                obtain ⟨rfl, g, rfl, hgQ, hg9⟩ := hcut
                have HGL := Lib.hid (show (limbsOf g).length ≤ 1 from len_small (by omega))
                have HSv := Lib.hid (fun (w' : World) (h : Ext wp w') => (h.cell (p := ⟨bY, 0, none⟩) hltV).trans hcV)
                have hNv : ∀ w', Ext wp w' → NatV w' (.slice (some av) (lv.length + 1) cyy) V := fun w' h => (hVp.below h).nat (by have := HVL.out; unfold Fit; omega)
                have HSr := Lib.hid (fun (w' : World) (h : Ext wp w') => (⟨(h.cell (p := ⟨w4.heap.size, 0, none⟩) hltb).trans hcR, (h.frozen (p := ⟨w4.heap.size, 0, none⟩) hltb).trans hfR⟩ : _ ∧ _))
                have hNr : ∀ w', Ext wp w' → NatV w' (.slice pA (limbsOf P).length pc) P := fun w' h => (hCR.below h).nat (by unfold Fit; omega)
                have HGQ := Lib.hid hgQ
                clear hgQ
                go_upto_region 23 with (fail)
                go_cut [16] (fun s16 wx => BoxAt wp wx s16 (V * g))
                case first =>
                  go_region_held3 (fun w' => w'.cell? ⟨bY, 0, none⟩ = some (.slice (some av) (lv.length + 1) cyy))
                    (exact HSv.out _ (by repeat first | assumption | exact Below.refl _ _ | refine ext_alloc ?_ _ | refine ext_drew ?_ | refine ext_set ?_ (by first | omega | (simp; done) | (simp; omega)) _))
                    (first
                      | (go_at_call 82; (with_reducible refine (rof_n (n := g) (by omega)).mono ?_); rintro e w5 ⟨A5, k5, c5, rfl, h5, x5, n5⟩; obtain ⟨hc5, hf5⟩ := bcell x5; have y5 := x5.size; (try simp at y5); (try (have q5 : wp.heap.size < w5.heap.size := by omega)); have e5 : Ext wp w5 := Ext.trans (by repeat first | assumption | exact Below.refl _ _ | refine ext_alloc ?_ _ | refine ext_drew ?_ | refine ext_set ?_ (by first | omega | (simp; done) | (simp; omega)) _) x5)
                      | (go_at_call 59; (with_reducible refine (rmul_n (hNv _ (by repeat first | assumption | exact Below.refl _ _ | refine ext_alloc ?_ _ | refine ext_drew ?_ | refine ext_set ?_ (by first | omega | (simp; done) | (simp; omega)) _)) (NatV.below (CanV.nat h5 (by unfold Fit; have := HGL.out; omega)) (by repeat first | assumption | exact Below.refl _ _ | refine ext_alloc ?_ _ | refine ext_drew ?_ | refine ext_set ?_ (by first | omega | (simp; done) | (simp; omega)) _)) (by have := HGL.out; have := HVL.out; omega)).mono ?_); rintro e w6 ⟨A6, k6, c6, rfl, h6, x6, n6⟩; obtain ⟨hc6, hf6⟩ := bcell x6; have y6 := x6.size; (try simp at y6); have e6 : Ext wp w6 := Ext.trans (by repeat first | assumption | exact Below.refl _ _ | refine ext_alloc ?_ _ | refine ext_drew ?_ | refine ext_set ?_ (by first | omega | (simp; done) | (simp; omega)) _) x6))
                  all_goals go_wp2
                  all_goals go_meet
                  all_goals first
                    | exact BoxAt.alloc e6 h6 _
                    | ((refine BoxAt.set (u := .slice none 0 0) e6 h6 ?_ ?_ ?_ (n6.mono ?_)) <;> first | omega | (simp; done) | (simp; omega) | (simp [hc6, go_sem]; done) | (simp [hf6, go_sem]; done) | (simp [hc6, hc5, q5, go_sem]; done) | (simp [hf6, hf5, q5, go_sem]; done))
                case rest =>
                  obtain ⟨bP, PA, Pk, Pc, rfl, hcP, hfP, hCP, hEP, hlP, hltP, hsP⟩ := hcut
                  go_wp2
                  go_loopw [15] (fun gv wr => ∃ (g : Nat) (A : Option Addr) (m c : Nat), Hid (P / V ≤ g) ∧ g ≤ 999999999 ∧ gv = .int .u64 g ∧ wr.cell? ⟨bP, 0, none⟩ = some (.slice A m c) ∧ wr.frozen? ⟨bP, 0, none⟩ = false ∧ CanV wr (.slice A m c) (V * g) ∧ Ext wp wr)
                    (fun gv _ => (intOf gv).toNat)
                  case atStart => exact ⟨g, PA, Pk, Pc, HGQ, hg9, rfl, hcP, hfP, hCP, hEP⟩
                  case round =>
                    clear hcP hfP hCP hEP hltP hsP HGQ hg9
                    obtain ⟨g, A, m, c, hgQ, hg9, rfl, hcA, hfA, hCA, hEA⟩ := hrel
                    have hltA : bP < wr.heap.size := World.block_lt_of_cell? _ _ hcA
                    obtain ⟨hcr1, hfr1⟩ := HSr.out _ hEA
                    have hcv1 := HSv.out _ hEA
                    have HGM := Lib.hid (show (limbsOf (V * g)).length ≤ lv.length + 2 from by
                      have e1 := limbsOf_length_mul V g
                      have e2 := len_small (x := g) (by omega)
                      have e3 := HVL.out
                      omega)
                    have HCA := Lib.hid (CanV.nat hCA (by have := HGM.out; unfold Fit; omega))
                    clear hCA
                    by_cases hgt : P < V * g
                    · have HQ1 := Lib.hid (show P / V < g from by
                        refine Nat.lt_of_mul_lt_mul_left (a := V) ?_
                        rw [Nat.mul_comm V (P / V)]
                        exact Nat.lt_of_le_of_lt (Nat.div_mul_le_self _ _) hgt)
                      have HE1 := Lib.hid (show V * g - V = V * (g - 1) from by rw [Nat.mul_sub, Nat.mul_one])
                      have hgp : 0 < g := Nat.lt_of_le_of_lt (Nat.zero_le _) HQ1.out
                      have HVg := Lib.hid (show V ≤ V * g from Nat.le_mul_of_pos_right _ hgp)
                      have hcm2 : 0 < cmpN (V * g) P := cmpN_pos.2 hgt
                      clear hgt
                      go_wp2_with fail
                      refine (rcmp_n HCA.out (hNr _ hEA)).mono ?_
                      rintro e w8 ⟨rfl, hx8⟩
                      have e8 := hEA.trans hx8
                      have hcA8 := (hx8.cell (p := ⟨bP, 0, none⟩) hltA).trans hcA
                      have hfA8 := (hx8.frozen (p := ⟨bP, 0, none⟩) hltA).trans hfA
                      have hltA8 : bP < w8.heap.size := World.block_lt_of_cell? _ _ hcA8
                      have hcv8 := HSv.out _ e8
                      have HCA8 := Lib.hid (NatV.below HCA.out hx8)
                      clear hcA hfA hcr1 hfr1 hcv1
                      generalize cmpN (V * g) P = cm2 at *
                      go_wp2_with fail
                      refine (rsub_ge HCA8.out (hNv _ e8) HVg.out (by have := HGM.out; omega)).mono ?_
                      rintro e w9 ⟨A9, k9, c9, rfl, h9, x9, n9⟩
                      have hcA9 := (x9.cell (p := ⟨bP, 0, none⟩) hltA8).trans hcA8
                      have hfA9 := (x9.frozen (p := ⟨bP, 0, none⟩) hltA8).trans hfA8
                      rw [HE1.out] at h9
                      clear hcA8 hfA8
                      go_wp2
                      go_roundw
                      case rel => exact ⟨g - 1, A9, k9, c9, Lib.hid (Nat.le_sub_one_of_lt HQ1.out), by omega, by go_num, World.cell?_setCell_same _ _ _ hcA9, by rw [World.frozen?_setCell]; exact hfA9, U32s.setNew h9 n9 hltA8 _, (e8.trans x9).setCell (by exact hlP) _⟩
                      case measure => simp [intOf]; try omega
                    · have hcm2 : cmpN (V * g) P ≤ 0 := by have := @cmpN_pos (V * g) P; omega
                      have HGE := Lib.hid (show g = P / V from by
                        refine Nat.le_antisymm ?_ hgQ.out
                        rw [Nat.le_div_iff_mul_le hVpos, Nat.mul_comm]
                        exact Nat.le_of_not_lt hgt)
                      have HLE := Lib.hid (show V * g ≤ P from Nat.le_of_not_lt hgt)
                      have HMD := Lib.hid (show P - V * g = P % V from by
                        rw [HGE.out]
                        have := Nat.div_add_mod P V
                        omega)
                      clear hgt hgQ
                      go_wp2_with fail
                      refine (rcmp_n HCA.out (hNr _ hEA)).mono ?_
                      rintro e w8 ⟨rfl, hx8⟩
                      have e8 := hEA.trans hx8
                      have hcA8 := (hx8.cell (p := ⟨bP, 0, none⟩) hltA).trans hcA
                      obtain ⟨hcr8, hfr8⟩ := HSr.out _ e8
                      have HCA8 := Lib.hid (NatV.below HCA.out hx8)
                      clear hcA hfA hcr1 hfr1 hcv1
                      generalize cmpN (V * g) P = cm2 at *
                      go_wp2_with fail
                      refine (rsub_ge (hNr _ e8) HCA8.out HLE.out (by omega)).mono ?_
                      rintro e w9 ⟨A9, k9, c9, rfl, h9, x9, n9⟩
                      rw [HMD.out] at h9
                      have e9 := e8.trans x9
                      obtain ⟨hcr9, hfr9⟩ := HSr.out _ e9
                      have own9 := ownsRow_setCell_other (World.ownsRow.kept hownR (Ext.grown e9) (.inr (by simp [Value.ownBlock]))) (a := ⟨w4.heap.size, 0, none⟩) (by simp [Value.ownBlock]; omega) (.slice A9 k9 c9)
                      have r9 := U32s.setNew (p := ⟨w4.heap.size, 0, none⟩) h9 n9 (by have := e8.size; show w4.heap.size < _; omega) (.slice A9 k9 c9)
                      have q9 := World.cell?_setCell_same _ _ (.slice A9 k9 c9) hcr9
                      have f9 : (w9.setCell ⟨w4.heap.size, 0, none⟩ (.slice A9 k9 c9)).frozen? ⟨w4.heap.size, 0, none⟩ = false := by rw [World.frozen?_setCell]; exact hfr9
                      have n9' : New (wp.heap.size) (.slice A9 k9 c9) := n9.mono e8.size
                      have E9 : Ext wY (w9.setCell ⟨w4.heap.size, 0, none⟩ (.slice A9 k9 c9)) := (hxR.trans e9).setCell (by show wY.heap.size ≤ w4.heap.size; omega) _
                      clear hcA8 hcr8 hfr8 h9 HCA HCA8
                      have hol : os.length = xs.length := by have := HSTP.out.len; simpa using this
                      have hcq : (w9.setCell ⟨w4.heap.size, 0, none⟩ (.slice A9 k9 c9)).cell? ⟨wY.heap.size, k, none⟩ = some (.int .u32 (os.getD k 0 : Nat)) := by rw [own9.cellAt k (by omega), u32s_get os _ (by omega)]
                      have hfq := own9.frozenAt k
                      generalize os.getD k 0 = q0 at *
                      go_upto_region 28 with (fail)
                      clear hcr9 hfr9
                      have hne1 : (⟨wY.heap.size, k, none⟩ : Addr) ≠ ⟨w4.heap.size, 0, none⟩ := fun h => by injection h with h1; omega
                      generalize w9.setCell ⟨w4.heap.size, 0, none⟩ (.slice A9 k9 c9) = W9 at *
                      have HG9 := Lib.hid (show g < 4294967296 by omega)
                      go_wp2
                      go_roundw
                      case rel =>
                        have hs := (own9.stored k (.int .u32 (g : Int))).1
                        rw [u32s_set] at hs
                        exact ⟨k, os.set k g, P % V, A9, k9, c9, by omega, by go_num, hs, by rw [World.cell?_setCell_other _ _ _ _ hne1]; exact q9, by rw [World.frozen?_setCell]; exact f9, U32s.setNew r9 n9' (by show wY.heap.size < _; omega) _, E9.setCell (Nat.le_refl _) _, n9'.mono (by omega), by rw [HGE.out]; exact HSTP.out⟩
                      case measure => simp [intOf]; try omega

end Go.Proofs.Ytmfigiifflljpaa
namespace Go.Proofs.Ytmfigiifflljpaa
open Go.RowKit Num

theorem rdivmod_pos {x y : Value} {a b : Nat} {w : World} (hx : NatV w x a) (hy : NatV w y b) (hb0 : 0 < b) (hl : (limbsOf a).length ≤ 549755813887) (hl2 : (limbsOf b).length ≤ 549755813887) :
    Calls Try.prog 79 #[.agg #[x], .agg #[y]] w (DivModR w a b) := by
  by_cases h : a < b
  · exact rdivmod_small hx hy h (by omega) (by omega)
  · exact rdivmod_big hx hy (by omega) hb0 hl

set_option maxHeartbeats 2000000 in
theorem rgcd_n {x y : Value} {a b : Nat} {w : World} (hx : NatV w x a) (hy : NatV w y b) (ha : (limbsOf a).length ≤ 549755813887) (hb : (limbsOf b).length ≤ 549755813887) :
    Calls Try.prog 78 #[.agg #[x], .agg #[y]] w (GivesN w (Nat.gcd a b)) := by
  go_enter Try.func78, Try.ntmps78
  go_upto_region 1 with (fail)
  have hB0 : Boxes w (((w.alloc (.cells #[x] 32)).alloc (.cells #[y] 32)).alloc (.cells #[.slice none 0 0] 32)) [[x], [y], [.slice none 0 0]] := (((Boxes.nil_ w).alloc rfl [x] 32).alloc (by simp) [y] 32).alloc (by simp) [.slice none 0 0] 32
  generalize ((w.alloc (.cells #[x] 32)).alloc (.cells #[y] 32)).alloc (.cells #[.slice none 0 0] 32) = W0 at *
  have hx0 : NatV W0 x a := hx.below hB0.ext
  have HB0 := Lib.hid hB0
  obtain ⟨cx0, fx0⟩ : W0.cell? ⟨w.heap.size, 0, none⟩ = some x ∧ W0.frozen? ⟨w.heap.size, 0, none⟩ = false := hB0.cell 0 _ 0 _ rfl rfl
  clear hB0
  go_wp2_with fail
  refine (norm_n hx0).mono ?_
  rintro e w1 ⟨A1, k1, c1, rfl, h1, x1, n1⟩
  have hB1 := HB0.out.below x1
  obtain ⟨cx1, fx1⟩ : w1.cell? ⟨w.heap.size, 0, none⟩ = some x ∧ w1.frozen? ⟨w.heap.size, 0, none⟩ = false := hB1.cell 0 _ 0 _ rfl rfl
  obtain ⟨cy1, fy1⟩ : w1.cell? ⟨w.heap.size + 1, 0, none⟩ = some y ∧ w1.frozen? ⟨w.heap.size + 1, 0, none⟩ = false := hB1.cell 1 _ 0 _ rfl rfl
  have HB1 := Lib.hid hB1
  clear hB1
  go_wp2_with fail
  have hB2 : Boxes w (w1.setCell ⟨w.heap.size, 0, none⟩ (.slice A1 k1 c1)) [[.slice A1 k1 c1], [y], [.slice none 0 0]] := HB1.out.set 0 0 _
  have hs0 : w.heap.size + 3 ≤ W0.heap.size := HB0.out.size
  have h1' := U32s.setNew (p := ⟨w.heap.size, 0, none⟩) h1 n1 (by show w.heap.size < _; omega) (.slice A1 k1 c1)
  have hs1 : w.heap.size + 3 ≤ (w1.setCell ⟨w.heap.size, 0, none⟩ (.slice A1 k1 c1)).heap.size := hB2.size
  clear cx0 fx0 cx1 fx1 cy1 fy1 HB1
  generalize w1.setCell ⟨w.heap.size, 0, none⟩ (.slice A1 k1 c1) = W1 at *
  obtain ⟨cy2, fy2⟩ : W1.cell? ⟨w.heap.size + 1, 0, none⟩ = some y ∧ W1.frozen? ⟨w.heap.size + 1, 0, none⟩ = false := hB2.cell 1 _ 0 _ rfl rfl
  have hy1 : NatV W1 y b := hy.below hB2.ext
  have HB2 := Lib.hid hB2
  clear hB2
  refine (norm_n hy1).mono ?_
  rintro e w3 ⟨A2, k2, c2, rfl, h2, x3, n2⟩
  have hB3 := HB2.out.below x3
  obtain ⟨cy3, fy3⟩ : w3.cell? ⟨w.heap.size + 1, 0, none⟩ = some y ∧ w3.frozen? ⟨w.heap.size + 1, 0, none⟩ = false := hB3.cell 1 _ 0 _ rfl rfl
  have hB4 : Boxes w (w3.setCell ⟨w.heap.size + 1, 0, none⟩ (.slice A2 k2 c2)) [[.slice A1 k1 c1], [.slice A2 k2 c2], [.slice none 0 0]] := hB3.set 1 0 _
  have n1' : New (w.heap.size + 3) (.slice A1 k1 c1) := n1.mono hs0
  have n2' : New (w.heap.size + 3) (.slice A2 k2 c2) := n2.mono hs1
  have h1'' := U32s.setNew (p := ⟨w.heap.size + 1, 0, none⟩) (CanV.below h1' x3) n1' (by show w.heap.size + 1 < _; omega) (.slice A2 k2 c2)
  have h2'' := U32s.setNew (p := ⟨w.heap.size + 1, 0, none⟩) h2 n2' (by show w.heap.size + 1 < _; omega) (.slice A2 k2 c2)
  clear hB3 cy2 fy2 h1' h2 h1
  go_upto_region 3 with (fail)
  generalize w3.setCell ⟨w.heap.size + 1, 0, none⟩ (.slice A2 k2 c2) = W2 at *
  clear n1 n2 hs0 hs1 x1 x3 cy3 fy3 hx0 hy1 HB0 HB2 hx hy
  clear w3 W1 w1 W0
  go_loopg [] b (fun g wr => ∃ (a' : Nat) (A : Option Addr) (k c : Nat) (A' : Option Addr) (k' c' : Nat), Boxes w wr [[.slice A k c], [.slice A' k' c'], [.slice none 0 0]] ∧ CanV wr (.slice A k c) a' ∧ CanV wr (.slice A' k' c') g ∧ New (w.heap.size + 3) (.slice A k c) ∧ New (w.heap.size + 3) (.slice A' k' c') ∧ Hid (Nat.gcd a' g = Nat.gcd a b) ∧ (limbsOf a').length ≤ 549755813887 ∧ (limbsOf g).length ≤ 549755813887)
  case atStart => exact ⟨a, A1, k1, c1, A2, k2, c2, hB4, h1'', h2'', n1', n2', Lib.hid rfl, ha, hb⟩
  case round =>
    clear hB4 h1'' h2'' n1' n2'
    obtain ⟨a', A, k, c, A', k', c', hB, hp, hq, np, nq, hg, hla, hlb⟩ := hrel
    obtain ⟨cx, fx⟩ : wr.cell? ⟨w.heap.size, 0, none⟩ = some (.slice A k c) ∧ wr.frozen? ⟨w.heap.size, 0, none⟩ = false := hB.cell 0 _ 0 _ rfl rfl
    obtain ⟨cy, fy⟩ : wr.cell? ⟨w.heap.size + 1, 0, none⟩ = some (.slice A' k' c') ∧ wr.frozen? ⟨w.heap.size + 1, 0, none⟩ = false := hB.cell 1 _ 0 _ rfl rfl
    obtain ⟨cz, fz⟩ : wr.cell? ⟨w.heap.size + 1 + 1, 0, none⟩ = some (.slice none 0 0) ∧ wr.frozen? ⟨w.heap.size + 1 + 1, 0, none⟩ = false := hB.cell 2 _ 0 _ rfl rfl
    have HB := Lib.hid hB
    obtain ⟨A2', c2', e, q2, q3, _⟩ := id hq
    injection e with e1 e2 e3
    subst e1 e2 e3
    by_cases hz : gk = 0
    · subst hz
      have hl0 := limbs_zero_len (b := 0) rfl
      rw [hl0] at cy
      go_wp2
      refine bodyPost_ret (v := .agg #[.slice A k c]) (by simp [results, Try.results78, go_sem, World.cell?_setCell_same _ _ _ cz]) rfl ?_
      have hg' := hg.out
      rw [Nat.gcd_zero_right] at hg'
      rw [← hg']
      exact ⟨_, _, _, rfl, U32s.setNew hp np (by show w.heap.size + 1 + 1 < _; omega) _, HB.out.ext.setCell (by show w.heap.size ≤ w.heap.size + 1 + 1; omega) _, np.mono (by omega)⟩
    · have hlp := limbs_pos_len (Nat.pos_of_ne_zero hz)
      have HP := Lib.hid (CanV.nat hp (by unfold Fit; omega))
      have HQ := Lib.hid (CanV.nat hq (by unfold Fit; omega))
      clear hB
      go_wp2_with fail
      refine (rdivmod_pos HP.out HQ.out (Nat.pos_of_ne_zero hz) hla hlb).mono ?_
      rintro e w4 ⟨A4, k4, c4, A5, k5, c5, rfl, h4, h5, x4, n4, n5⟩
      have y4 := ext_alloc (ext_alloc x4 (.cells #[.slice A4 k4 c4] 32)) (.cells #[.slice A5 k5 c5] 32)
      have p5 := CanV.alloc (CanV.alloc h5 (.cells #[.slice A4 k4 c4] 32)) (.cells #[.slice A5 k5 c5] 32)
      have b5 : ((w4.alloc (.cells #[.slice A4 k4 c4] 32)).alloc (.cells #[.slice A5 k5 c5] 32)).cell? ⟨w4.heap.size + 1, 0, none⟩ = some (.slice A5 k5 c5) := by simp [go_sem]
      have hB4 := HB.out.below y4
      obtain ⟨dx, gx⟩ : ((w4.alloc (.cells #[.slice A4 k4 c4] 32)).alloc (.cells #[.slice A5 k5 c5] 32)).cell? ⟨w.heap.size, 0, none⟩ = some (.slice A k c) ∧ ((w4.alloc (.cells #[.slice A4 k4 c4] 32)).alloc (.cells #[.slice A5 k5 c5] 32)).frozen? ⟨w.heap.size, 0, none⟩ = false := hB4.cell 0 _ 0 _ rfl rfl
      obtain ⟨dy, gy⟩ : ((w4.alloc (.cells #[.slice A4 k4 c4] 32)).alloc (.cells #[.slice A5 k5 c5] 32)).cell? ⟨w.heap.size + 1, 0, none⟩ = some (.slice A' (limbsOf gk).length c') ∧ ((w4.alloc (.cells #[.slice A4 k4 c4] 32)).alloc (.cells #[.slice A5 k5 c5] 32)).frozen? ⟨w.heap.size + 1, 0, none⟩ = false := hB4.cell 1 _ 0 _ rfl rfl
      have q4 := hq.below y4
      have hszr : w.heap.size + 3 ≤ wr.heap.size := HB.out.size
      have hsz4 : w.heap.size + 3 ≤ w4.heap.size := Nat.le_trans hszr x4.size
      have n5' := n5.mono hszr
      clear h4 h5 x4 cx fx cy fy cz fz y4 HP HQ hp hq
      go_upto_region 5 with (fail)
      have HB4 := Lib.hid hB4
      generalize (w4.alloc (.cells #[.slice A4 k4 c4] 32)).alloc (.cells #[.slice A5 k5 c5] 32) = W4 at *
      have hB5 : Boxes w (W4.setCell ⟨w.heap.size, 0, none⟩ (.slice A' (limbsOf gk).length c')) [[.slice A' (limbsOf gk).length c'], [.slice A' (limbsOf gk).length c'], [.slice none 0 0]] := hB4.set 0 0 _
      have q5 := U32s.setNew (p := ⟨w.heap.size, 0, none⟩) q4 nq (by show w.heap.size < _; omega) (.slice A' (limbsOf gk).length c')
      have p5' := U32s.setNew (p := ⟨w.heap.size, 0, none⟩) p5 n5' (by show w.heap.size < _; omega) (.slice A' (limbsOf gk).length c')
      have b5' : (W4.setCell ⟨w.heap.size, 0, none⟩ (.slice A' (limbsOf gk).length c')).cell? ⟨w4.heap.size + 1, 0, none⟩ = some (.slice A5 k5 c5) := by rw [World.cell?_setCell_other _ _ _ _ (by intro h; injection h with h; omega)]; exact b5
      obtain ⟨ey, gy5⟩ : (W4.setCell ⟨w.heap.size, 0, none⟩ (.slice A' (limbsOf gk).length c')).cell? ⟨w.heap.size + 1, 0, none⟩ = some (.slice A' (limbsOf gk).length c') ∧ (W4.setCell ⟨w.heap.size, 0, none⟩ (.slice A' (limbsOf gk).length c')).frozen? ⟨w.heap.size + 1, 0, none⟩ = false := hB5.cell 1 _ 0 _ rfl rfl
      clear q4 p5 b5
      go_upto_region 6 with (fail)
      clear dx gx dy gy
      generalize W4.setCell ⟨w.heap.size, 0, none⟩ (.slice A' (limbsOf gk).length c') = W5 at *
      go_wp2
      go_roundg (a' % gk)
      case rel => exact ⟨gk, A', _, c', A5, k5, c5, hB5.set 1 0 _, U32s.setNew q5 nq (by show w.heap.size + 1 < _; omega) _, U32s.setNew p5' n5' (by show w.heap.size + 1 < _; omega) _, nq, n5', Lib.hid (by rw [Nat.gcd_comm, ← Nat.gcd_rec, Nat.gcd_comm]; exact hg.out), hlb, Nat.le_trans (limbsOf_length_mono (Nat.mod_le _ _)) hla⟩
      case measure => exact Nat.mod_lt _ (Nat.pos_of_ne_zero hz)

end Go.Proofs.Ytmfigiifflljpaa
