/- Units of weight: Multiple, Error. -/
import Derived.Test.YtbplkienkhinmaaGreatDoorUnSp
set_option linter.unusedVariables false
set_option linter.unusedSimpArgs false
set_option maxRecDepth 100000
namespace Go.Proofs.YtbplkienkhinmaaGreatDoor
open Go.RowKit Num

/-- A new box that holds a canonical fraction with new limbs. -/
def FBN (W wx : World) (v : Value) (q : Rat) : Prop := ∃ b c A k l A' k' l', v = .pointer (some ⟨b, 0, none⟩) ∧ W.heap.size ≤ b ∧ FBox wx b (.bool c) (.slice A k l) (.slice A' k' l') ∧ FracV wx c (.slice A k l) (.slice A' k' l') q ∧ Ext W wx ∧ New W.heap.size (.slice A k l) ∧ New W.heap.size (.slice A' k' l')
/-- A box that is written in a loop. -/
def FIu (W wr : World) (b : Nat) (q : Rat) : Prop := ∃ c A k l A' k' l', FBox wr b (.bool c) (.slice A k l) (.slice A' k' l') ∧ FracV wr c (.slice A k l) (.slice A' k' l') q ∧ Ext W wr ∧ New W.heap.size (.slice A k l) ∧ New W.heap.size (.slice A' k' l')
theorem rest_fb {wt : Int} {u : Rat} (h1 : 1 ≤ wt) (h2 : wt ≤ 200000) (hu : FB u 3) : ∀ j, j ≤ 30 → FB (restTo wt u j) 10
  | 0, _ => by
    have h := FB.sub (fb_i64 (n := wt) (d := 1) (by omega) (by omega)) hu (by omega)
    exact h.mono (by omega)
  | j + 1, hj => by
    rw [restTo_succ]
    split
    · have a := FB.mul (fb_i64 (n := (j : Int) + 2) (d := 1) (by omega) (by omega)) hu (by omega)
      have h := FB.sub (fb_i64 (n := wt) (d := 1) (by omega) (by omega)) a (by omega)
      exact h.mono (by omega)
    · exact rest_fb h1 h2 hu j (by omega)
theorem nxt_fb {wt : Int} {u : Rat} (h1 : 1 ≤ wt) (h2 : wt ≤ 200000) (hu : FB u 3) {j : Nat} (hj : j ≤ 30) : FB (nxtQ wt u j) 10 := by
  have a := FB.mul (fb_i64 (n := (j : Int) + 2) (d := 1) (by omega) (by omega)) hu (by omega)
  have h := FB.sub (fb_i64 (n := wt) (d := 1) (by omega) (by omega)) a (by omega)
  exact h.mono (by omega)
/-- A number, a fraction, no error. -/
def GivesMu (w : World) (q : Rat) (e : Ending) (w' : World) : Prop :=
  ∃ (z : Int) (b : Bool) (A : Option Addr) (k c : Nat) (A' : Option Addr) (k' c' : Nat), e = .returned (.tuple #[.int .i64 z, .agg #[.bool b, .slice A k c, .slice A' k' c'], .int .i64 0]) ∧ FracV w' b (.slice A k c) (.slice A' k' c') q ∧ Ext w w' ∧ New w.heap.size (.slice A k c) ∧ New w.heap.size (.slice A' k' c')
theorem GivesMu.box {w w1 : World} {z : Int} {b : Bool} {A A' : Option Addr} {k c k' c' B : Nat} {q : Rat} {p0 p1 p2 : Value} (hE : Ext w w1) (h : FracV w1 b (.slice A k c) (.slice A' k' c') q) (hn : New (B + 1) (.slice A k c)) (hn' : New (B + 1) (.slice A' k' c')) (hB : w.heap.size ≤ B) :
    GivesMu w q (.returned (.tuple #[.int .i64 z, .agg #[.bool b, .slice A k c, .slice A' k' c'], .int .i64 0])) (((w1.setCell ⟨B, 0, none⟩ p0).setCell ⟨B, 1, none⟩ p1).setCell ⟨B, 2, none⟩ p2) := by
  obtain ⟨_, _, _, _, _, _, _, e, h1, h2, h3, h4⟩ := GivesF.box (p0 := p0) (p1 := p1) (p2 := p2) hE h hn hn' hB
  injection e with e
  injection e with e
  simp only [Array.mk.injEq, List.cons.injEq, Value.bool.injEq, Value.slice.injEq, and_true] at e
  obtain ⟨rfl, ⟨rfl, rfl, rfl⟩, rfl, rfl, rfl⟩ := e
  exact ⟨_, _, _, _, _, _, _, _, rfl, h1, h2, h3, h4⟩
theorem GivesMu.drew {w w' : World} {q : Rat} {e : Ending} (h : GivesMu w q e w') : GivesMu w q e w'.drew := by
  obtain ⟨z, b, A, k, c, A', k', c', he, h1, h2, h3⟩ := h
  exact ⟨z, b, A, k, c, A', k', c', he, h1.below (Below.refl _ _).drew, h2.drew, h3⟩

set_option maxHeartbeats 16000000 in
theorem umultiple {b : Bool} {s t : Value} {u : Rat} {wt : Int} {m : Nat} {w : World} (hu : AnyF w b s t u 3) (hf : FB u 3) (hp : 0 < u) (h1 : 1 ≤ wt) (h2 : wt ≤ 200000) (h5 : 1 ≤ m) (h6 : m ≤ 24) :
    Calls Tryz.prog 28 #[.int .i64 wt, .agg #[.bool b, s, t], .int .i64 m] w (GivesMu w (restTo wt u (m - 1))) := by
  have HW := Lib.hid (fun (w' : World) => uweight_t (w := w') h1 h2)
  have HL := Lib.hid (fun (w' : World) => ulimits_ok (tol := 0) (m := m) (w := w') (by omega) (by omega) (by omega) (by omega))
  have HUN := Lib.hid (fun (w' : World) (h : Ext w w') => uunit_t (hu.below h) hp)
  have HUV := Lib.hid (fun (w' : World) (h : Ext w w') => hu.below h)
  have HFW := Lib.hid (fb_i64 (n := wt) (d := 1) (by omega) (by omega))
  have HFU := Lib.hid hf
  have HRF := Lib.hid (rest_fb h1 h2 hf)
  have HNF := Lib.hid (fun j (hj : j ≤ 30) => nxt_fb h1 h2 hf (j := j) hj)
  have HFKJ := Lib.hid (fun (j : Nat) (hj : j ≤ 30) => (And.intro (fb_i64 (n := (j : Int) + 2) (d := 1) (by omega) (by omega)) (FB.mul (fb_i64 (n := (j : Int) + 2) (d := 1) (by omega) (by omega)) hf (by omega))))
  clear hu hf hp
  go_enter Tryz.func28, Tryz.ntmps28
  go_upto_region 1 with (fail)
  have hB0 := (FBox.new w (.bool b) (s) (t) 27).below (ext_alloc (Below.refl _ _) (.cells #[.bool false, .slice none 0 0, .slice none 0 0] 27))
  have hB1 := FBox.new (w.alloc (.cells #[.bool b, s, t] 27)) (.bool false) (.slice none 0 0) (.slice none 0 0) 27
  rw [show (w.alloc (.cells #[.bool b, s, t] 27)).heap.size = w.heap.size + 1 from by simp] at hB1
  have x0 : Ext w ((w.alloc (.cells #[.bool b, s, t] 27)).alloc (.cells #[.bool false, .slice none 0 0, .slice none 0 0] 27)) := ext_alloc (ext_alloc (Below.refl _ _) _) _
  have hs0 : w.heap.size + 1 + 1 ≤ ((w.alloc (.cells #[.bool b, s, t] 27)).alloc (.cells #[.bool false, .slice none 0 0, .slice none 0 0] 27)).heap.size := by simp
  generalize ((w.alloc (.cells #[.bool b, s, t] 27)).alloc (.cells #[.bool false, .slice none 0 0, .slice none 0 0] 27)) = W0 at *
  have HB0 := Lib.hid (fun (w' : World) (h : Ext W0 w') => hB0.below h)
  obtain ⟨c00, c01, c02, d00, d01, d02⟩ := hB0
  have HF := Lib.hid (fun (w' : World) (h : Ext W0 w') => hB1.below h)
  obtain ⟨r0, r1, r2, g0, g1, g2⟩ := hB1
  have HE := Lib.hid x0
  clear x0
  have f0 : Ext W0 W0 := Below.refl _ _
  have W0E := HE.out
  go_upto_region 6 with (first
    | (go_at_call 35; (with_reducible refine (HW.out W0).mono ?_); rintro e w1 ⟨rfl, hw1⟩; obtain rfl : W0 = w1 := hw1.symm)
    | (go_at_call 22; (with_reducible refine (HUN.out _ HE.out).mono ?_); rintro e w2 ⟨rfl, x2⟩)
    | (go_at_call 20; (with_reducible refine (HL.out w2).mono ?_); rintro e w3 ⟨rfl, hw3⟩; obtain rfl : w2 = w3 := hw3.symm))
  have HXU := Lib.hid (HE.out.trans x2)
  have HS := Lib.hid (fun (w' : World) (h : Ext w2 w') => (⟨(HB0.out _ (x2.trans h)).1, (HB0.out _ (x2.trans h)).2.1, (HB0.out _ (x2.trans h)).2.2.1⟩ : w'.cell? ⟨w.heap.size, 0, none⟩ = some (.bool b) ∧ w'.cell? ⟨w.heap.size, 1, none⟩ = some s ∧ w'.cell? ⟨w.heap.size, 2, none⟩ = some t))
  have HSU := Lib.hid HS.out
  have HFX := Lib.hid (fun (w' : World) (h : Ext w2 w') => HF.out w' (x2.trans h))
  have hsz : w.heap.size + 1 + 1 ≤ w2.heap.size := by have := x2.size; omega
  clear c00 c01 c02 d00 d01 d02 r0 r1 r2 g0 g1 g2 hs0 W0E f0 x2
  go_cut [10, 11] (fun bv rv wx => bv = .int .i64 1 ∧ FBN w2 wx rv (restTo wt u 0))
  case first =>
    refine wp_region_G (fun w' => Ext w2 w') [6] (by kernel_rfl) ?_
    have gS : Ext w2 w2.drew := (Below.refl _ _).drew
    refine wpAnyG_take 0 (v := ?_) rfl (by kernel_rfl) (by kernel_rfl) (by kernel_rfl) (by kernel_rfl) (by rfl) (by kernel_rfl) (fun _ _ _ h => h) (by rfl) (fun w' hw' => ?_) gS ?_
    rotate_left
    focus (go_simp; (try with_reducible rfl); done)
    (try simp only [Act.put, List.getElem_toArray, List.getElem_cons_succ, List.getElem_cons_zero, List.setIfInBounds_toArray, List.set_cons_zero, List.set_cons_succ])
    refine wpAnyG_take 2 (v := ?_) rfl (by kernel_rfl) (by kernel_rfl) (by kernel_rfl) (by kernel_rfl) (by rfl) (by kernel_rfl) (fun _ _ _ h => h) (by rfl) (fun w' hw' => ?_) gS ?_
    rotate_left
    focus (have hh := HS.out _ hw'; go_split_ands; go_simp; (try with_reducible rfl); done)
    (try simp only [Act.put, List.getElem_toArray, List.getElem_cons_succ, List.getElem_cons_zero, List.setIfInBounds_toArray, List.set_cons_zero, List.set_cons_succ])
    refine wpAnyG_two 1 4 (by kernel_rfl) rfl rfl (by rfl) (by rfl) (fun K hK => ?_) (fun K hK => ?_)
    · go_simp
      go_at_call 27
      refine (uwhole_n (n := wt) (by omega)).mono ?_
      rintro _ s1 ⟨b1, A1, k1, c1, B1, l1, d1, rfl, h1, z1, n1, m1⟩
      have HH1 := Lib.hid (fun (w' : World) (h : Ext s1 w') => FracV.any (h1.below h) HFW.out (by omega))
      have gS : Ext w2 s1 := Ext.trans gS z1
      have e1 : Ext s1 s1 := Below.refl _ _
      (try go_wp2_with fail)
      refine hK.out _ _ (fun _ => gS) ?_
      clear hK K
      (try simp only [Act.put, List.getElem_toArray, List.getElem_cons_succ, List.getElem_cons_zero, List.setIfInBounds_toArray, List.set_cons_zero, List.set_cons_succ])
      refine wpAnyG_two 3 4 (by kernel_rfl) rfl rfl (by rfl) (by rfl) (fun K hK => ?_) (fun K hK => ?_)
      · go_simp
        have gP := gS
        go_at_call 46
        refine (sub_f (HH1.out _ e1) (HUV.out _ (HXU.out.trans gS)) HFW.out HFU.out (by omega)).mono ?_
        rintro _ s2 ⟨b2, A2, k2, c2, B2, l2, d2, rfl, h2, z2, n2, m2⟩
        have gS : Ext w2 s2 := Ext.trans gS z2
        have e1 := e1.trans z2
        (try go_wp2_with fail)
        refine hK.out _ _ (fun _ => gS) ?_
        clear hK K
        (try simp only [Act.put, List.getElem_toArray, List.getElem_cons_succ, List.getElem_cons_zero, List.setIfInBounds_toArray, List.set_cons_zero, List.set_cons_succ])
        have gg := gS
        refine wpAnyG_one 4 (by kernel_rfl) rfl (by rfl) (fun K hK => ?_)
        go_simp
        have gS := ext_alloc gS (.cells #[.bool false, .slice none 0 0, .slice none 0 0] 27)
        (try go_wp2_with fail)
        refine hK.out _ _ (fun _ => gS) ?_
        clear hK K
        (try simp only [Act.put, List.getElem_toArray, List.getElem_cons_succ, List.getElem_cons_zero, List.setIfInBounds_toArray, List.set_cons_zero, List.set_cons_succ])
        refine wpAnyG_take 5 (v := ?_) rfl (by kernel_rfl) (by kernel_rfl) (by kernel_rfl) (by kernel_rfl) (by rfl) (by kernel_rfl) (fun _ _ _ h => h) (by rfl) (fun w' hw' => ?_) gS ?_
        rotate_left
        focus (go_simp; (try with_reducible rfl); done)
        (try simp only [Act.put, List.getElem_toArray, List.getElem_cons_succ, List.getElem_cons_zero, List.setIfInBounds_toArray, List.set_cons_zero, List.set_cons_succ])
        refine wpAnyG_one 6 (by kernel_rfl) rfl (by rfl) (fun K hK => ?_)
        go_simp
        refine hK.out _ _ (fun h => absurd h (by decide)) ?_
        clear hK K
        (try simp only [Act.put, List.getElem_toArray, List.getElem_cons_succ, List.getElem_cons_zero, List.setIfInBounds_toArray, List.set_cons_zero, List.set_cons_succ])
        refine wpAnyG_done (by kernel_rfl) ?_ _
        go_wp2
        go_meet
        refine ⟨rfl, _, b2, A2, k2, c2, B2, l2, d2, rfl, gg.size, FBox.new _ _ _ _ _, h2.below (ext_alloc (Below.refl _ _) _), ext_alloc gg _, n2.mono gP.size, m2.mono gP.size⟩
      · go_simp
        have hdl : s1.heap.size < (s1.alloc (.cells #[.bool false, .slice none 0 0, .slice none 0 0] 27)).heap.size := by simp
        have hgb : w2.heap.size ≤ s1.heap.size := gS.size
        have gS := ext_alloc gS (.cells #[.bool false, .slice none 0 0, .slice none 0 0] 27)
        have e1 := ext_alloc e1 (.cells #[.bool false, .slice none 0 0, .slice none 0 0] 27)
        have dF := FBox.new s1 (.bool false) (.slice none 0 0) (.slice none 0 0) 27
        (try go_wp2_with fail)
        refine hK.out _ _ (fun _ => gS) ?_
        clear hK K
        (try simp only [Act.put, List.getElem_toArray, List.getElem_cons_succ, List.getElem_cons_zero, List.setIfInBounds_toArray, List.set_cons_zero, List.set_cons_succ])
        refine wpAnyG_one 3 (by kernel_rfl) rfl (by rfl) (fun K hK => ?_)
        go_simp
        have gP := gS
        have hdp := hdl
        go_at_call 46
        refine (sub_f (HH1.out _ e1) (HUV.out _ (HXU.out.trans gS)) HFW.out HFU.out (by omega)).mono ?_
        rintro _ s2 ⟨b2, A2, k2, c2, B2, l2, d2, rfl, h2, z2, n2, m2⟩
        have gS : Ext w2 s2 := Ext.trans gS z2
        have e1 := e1.trans z2
        have dF := dF.below z2
        have hdl : s1.heap.size < s2.heap.size := by have hq := z2.size; have hr := hdl; (try simp at hq hr); omega
        (try go_wp2_with fail)
        refine hK.out _ _ (fun _ => gS) ?_
        clear hK K
        (try simp only [Act.put, List.getElem_toArray, List.getElem_cons_succ, List.getElem_cons_zero, List.setIfInBounds_toArray, List.set_cons_zero, List.set_cons_succ])
        refine wpAnyG_take 5 (v := ?_) rfl (by kernel_rfl) (by kernel_rfl) (by kernel_rfl) (by kernel_rfl) (by rfl) (by kernel_rfl) (fun _ _ _ h => h) (by rfl) (fun w' hw' => ?_) gS ?_
        rotate_left
        focus (go_simp; (try with_reducible rfl); done)
        (try simp only [Act.put, List.getElem_toArray, List.getElem_cons_succ, List.getElem_cons_zero, List.setIfInBounds_toArray, List.set_cons_zero, List.set_cons_succ])
        obtain ⟨i0, i1, i2, j0, j1, j2⟩ := dF
        refine wpAnyG_one 6 (by kernel_rfl) rfl (by rfl) (fun K hK => ?_)
        go_simp
        refine hK.out _ _ (fun h => absurd h (by decide)) ?_
        clear hK K
        (try simp only [Act.put, List.getElem_toArray, List.getElem_cons_succ, List.getElem_cons_zero, List.setIfInBounds_toArray, List.set_cons_zero, List.set_cons_succ])
        refine wpAnyG_done (by kernel_rfl) ?_ _
        go_wp2
        go_meet
        refine ⟨rfl, _, b2, A2, k2, c2, B2, l2, d2, rfl, hgb, FBox.put ⟨i0, i1, i2, j0, j1, j2⟩ _ _ _, h2.put n2 m2 (by have hr := hdp; (try simp at hr ⊢); (try omega)) _ _ _, ext_put gS hgb _ _ _, n2.mono gP.size, m2.mono gP.size⟩
    · go_simp
      have hdl : w2.heap.size < (w2.alloc (.cells #[.bool false, .slice none 0 0, .slice none 0 0] 27)).heap.size := by simp
      have hgb : w2.heap.size ≤ w2.heap.size := gS.size
      have gS := ext_alloc gS (.cells #[.bool false, .slice none 0 0, .slice none 0 0] 27)
      have dF : FBox (w2.alloc (.cells #[.bool false, .slice none 0 0, .slice none 0 0] 27)).drew w2.heap.size (.bool false) (.slice none 0 0) (.slice none 0 0) := FBox.new w2 (.bool false) (.slice none 0 0) (.slice none 0 0) 27
      (try go_wp2_with fail)
      refine hK.out _ _ (fun _ => gS) ?_
      clear hK K
      (try simp only [Act.put, List.getElem_toArray, List.getElem_cons_succ, List.getElem_cons_zero, List.setIfInBounds_toArray, List.set_cons_zero, List.set_cons_succ])
      refine wpAnyG_one 1 (by kernel_rfl) rfl (by rfl) (fun K hK => ?_)
      go_simp
      go_at_call 27
      refine (uwhole_n (n := wt) (by omega)).mono ?_
      rintro _ s1 ⟨b1, A1, k1, c1, B1, l1, d1, rfl, h1, z1, n1, m1⟩
      have HH1 := Lib.hid (fun (w' : World) (h : Ext s1 w') => FracV.any (h1.below h) HFW.out (by omega))
      have gS : Ext w2 s1 := Ext.trans gS z1
      have dF := dF.below z1
      have hdl : w2.heap.size < s1.heap.size := by have hq := z1.size; have hr := hdl; (try simp at hq hr); omega
      have e1 : Ext s1 s1 := Below.refl _ _
      (try go_wp2_with fail)
      refine hK.out _ _ (fun _ => gS) ?_
      clear hK K
      (try simp only [Act.put, List.getElem_toArray, List.getElem_cons_succ, List.getElem_cons_zero, List.setIfInBounds_toArray, List.set_cons_zero, List.set_cons_succ])
      refine wpAnyG_one 3 (by kernel_rfl) rfl (by rfl) (fun K hK => ?_)
      go_simp
      have gP := gS
      have hdp := hdl
      go_at_call 46
      refine (sub_f (HH1.out _ e1) (HUV.out _ (HXU.out.trans gS)) HFW.out HFU.out (by omega)).mono ?_
      rintro _ s2 ⟨b2, A2, k2, c2, B2, l2, d2, rfl, h2, z2, n2, m2⟩
      have gS : Ext w2 s2 := Ext.trans gS z2
      have e1 := e1.trans z2
      have dF := dF.below z2
      have hdl : w2.heap.size < s2.heap.size := by have hq := z2.size; have hr := hdl; (try simp at hq hr); omega
      (try go_wp2_with fail)
      refine hK.out _ _ (fun _ => gS) ?_
      clear hK K
      (try simp only [Act.put, List.getElem_toArray, List.getElem_cons_succ, List.getElem_cons_zero, List.setIfInBounds_toArray, List.set_cons_zero, List.set_cons_succ])
      refine wpAnyG_take 5 (v := ?_) rfl (by kernel_rfl) (by kernel_rfl) (by kernel_rfl) (by kernel_rfl) (by rfl) (by kernel_rfl) (fun _ _ _ h => h) (by rfl) (fun w' hw' => ?_) gS ?_
      rotate_left
      focus (go_simp; (try with_reducible rfl); done)
      (try simp only [Act.put, List.getElem_toArray, List.getElem_cons_succ, List.getElem_cons_zero, List.setIfInBounds_toArray, List.set_cons_zero, List.set_cons_succ])
      obtain ⟨i0, i1, i2, j0, j1, j2⟩ := dF
      refine wpAnyG_one 6 (by kernel_rfl) rfl (by rfl) (fun K hK => ?_)
      go_simp
      refine hK.out _ _ (fun h => absurd h (by decide)) ?_
      clear hK K
      (try simp only [Act.put, List.getElem_toArray, List.getElem_cons_succ, List.getElem_cons_zero, List.setIfInBounds_toArray, List.set_cons_zero, List.set_cons_succ])
      refine wpAnyG_done (by kernel_rfl) ?_ _
      go_wp2
      go_meet
      refine ⟨rfl, _, b2, A2, k2, c2, B2, l2, d2, rfl, hgb, FBox.put ⟨i0, i1, i2, j0, j1, j2⟩ _ _ _, h2.put n2 m2 (by have hr := hdp; (try simp at hr ⊢); (try omega)) _ _ _, ext_put gS hgb _ _ _, n2.mono gP.size, m2.mono gP.size⟩
  case rest =>
    obtain ⟨rfl, BR, c9, A9, k9, l9, A9', k9', l9', rfl, hBR, hG, hV, hX, hN, hN'⟩ := hcut
    obtain ⟨W6, hW6⟩ : ∃ W6 : World, W6 = wc := ⟨_, rfl⟩
    subst hW6
    clear HS
    go_wp2
    go_loopw [10, 12] (fun bv kv wr => ∃ (j : Nat) (z : Int), j + 1 ≤ m ∧ bv = .int .i64 z ∧ kv = .int .i64 ((j : Int) + 2) ∧ FIu w2 wr BR (restTo wt u j)) (fun _ kv _ => m + 2 - (intOf kv).toNat)
    case atStart => exact ⟨0, 1, by omega, rfl, rfl, c9, A9, k9, l9, A9', k9', l9', hG, hV, hX, hN, hN'⟩
    case round =>
      clear hG hV hX hN hN'
      obtain ⟨j, z, hj, rfl, rfl, cc, MA, mk, ml, MA', mk', ml', hM, vM, xM, nM, nM'⟩ := hrel
      by_cases hjm : j + 2 ≤ m
      · have HXR := Lib.hid (HXU.out.trans xM)
        have HXM := Lib.hid xM
        have HFK := Lib.hid (HFKJ.out j (by omega)).1
        have HFKU := Lib.hid (HFKJ.out j (by omega)).2
        have hk1 : (j : Int) + 2 ≤ (m : Int) := by omega
        have HS := Lib.hid (fun (w' : World) (h : Ext wr w') => HSU.out w' (xM.trans h))
        have HM := Lib.hid (fun (w' : World) (h : Ext wr w') => hM.below h)
        have HMV := Lib.hid (fun (w' : World) (h : Ext wr w') => vM.below h)
        have hMl := hM.lt
        have HNM := Lib.hid (And.intro nM nM')
        clear hM vM xM nM nM'
        go_upto_region 10 with (fail)
        go_cut [13] (fun xv wx => FBN wr wx xv (nxtQ wt u j))
        case first =>
          refine wp_region_G (fun w' => Ext wr w') [8] (by kernel_rfl) ?_
          have gS : Ext wr wr.drew := (Below.refl _ _).drew
          refine wpAnyG_take 0 (v := ?_) rfl (by kernel_rfl) (by kernel_rfl) (by kernel_rfl) (by kernel_rfl) (by rfl) (by kernel_rfl) (fun _ _ _ h => h) (by rfl) (fun w' hw' => ?_) gS ?_
          rotate_left
          focus (go_simp; (try with_reducible rfl); done)
          (try simp only [Act.put, List.getElem_toArray, List.getElem_cons_succ, List.getElem_cons_zero, List.setIfInBounds_toArray, List.set_cons_zero, List.set_cons_succ])
          refine wpAnyG_take 2 (v := ?_) rfl (by kernel_rfl) (by kernel_rfl) (by kernel_rfl) (by kernel_rfl) (by rfl) (by kernel_rfl) (fun _ _ _ h => h) (by rfl) (fun w' hw' => ?_) gS ?_
          rotate_left
          focus (go_simp; (try with_reducible rfl); done)
          (try simp only [Act.put, List.getElem_toArray, List.getElem_cons_succ, List.getElem_cons_zero, List.setIfInBounds_toArray, List.set_cons_zero, List.set_cons_succ])
          refine wpAnyG_take 4 (v := ?_) rfl (by kernel_rfl) (by kernel_rfl) (by kernel_rfl) (by kernel_rfl) (by rfl) (by kernel_rfl) (fun _ _ _ h => h) (by rfl) (fun w' hw' => ?_) gS ?_
          rotate_left
          focus (have hh := HS.out _ hw'; go_split_ands; go_simp; (try with_reducible rfl); done)
          (try simp only [Act.put, List.getElem_toArray, List.getElem_cons_succ, List.getElem_cons_zero, List.setIfInBounds_toArray, List.set_cons_zero, List.set_cons_succ])
          refine wpAnyG_two 1 7 (by kernel_rfl) rfl rfl (by rfl) (by rfl) (fun K hK => ?_) (fun K hK => ?_)
          · go_simp
            go_at_call 27
            refine (uwhole_n (n := wt) (by omega)).mono ?_
            rintro _ s1 ⟨b1, A1, k1, c1, B1, l1, d1, rfl, h1, z1, n1, m1⟩
            have HH1 := Lib.hid (fun (w' : World) (h : Ext s1 w') => FracV.any (h1.below h) HFW.out (by omega))
            have gS : Ext wr s1 := Ext.trans gS z1
            have e1 : Ext s1 s1 := Below.refl _ _
            (try go_wp2_with fail)
            refine hK.out _ _ (fun _ => gS) ?_
            clear hK K
            (try simp only [Act.put, List.getElem_toArray, List.getElem_cons_succ, List.getElem_cons_zero, List.setIfInBounds_toArray, List.set_cons_zero, List.set_cons_succ])
            refine wpAnyG_two 3 7 (by kernel_rfl) rfl rfl (by rfl) (by rfl) (fun K hK => ?_) (fun K hK => ?_)
            · go_simp
              go_at_call 27
              refine (uwhole_n (n := (j : Int) + 2) (by omega)).mono ?_
              rintro _ s2 ⟨b2, A2, k2, c2, B2, l2, d2, rfl, h2, z2, n2, m2⟩
              have HH2 := Lib.hid (fun (w' : World) (h : Ext s2 w') => FracV.any (h2.below h) HFK.out (by omega))
              have gS : Ext wr s2 := Ext.trans gS z2
              have e1 := e1.trans z2
              have e2 : Ext s2 s2 := Below.refl _ _
              (try go_wp2_with fail)
              refine hK.out _ _ (fun _ => gS) ?_
              clear hK K
              (try simp only [Act.put, List.getElem_toArray, List.getElem_cons_succ, List.getElem_cons_zero, List.setIfInBounds_toArray, List.set_cons_zero, List.set_cons_succ])
              refine wpAnyG_two 5 7 (by kernel_rfl) rfl rfl (by rfl) (by rfl) (fun K hK => ?_) (fun K hK => ?_)
              · go_simp
                go_at_call 47
                refine (mul_f (HH2.out _ e2) (HUV.out _ (HXR.out.trans gS)) (by omega)).mono ?_
                rintro _ s3 ⟨b3, A3, k3, c3, B3, l3, d3, rfl, h3, z3, n3, m3⟩
                have HH3 := Lib.hid (fun (w' : World) (h : Ext s3 w') => FracV.any (h3.below h) HFKU.out (by omega))
                have gS : Ext wr s3 := Ext.trans gS z3
                have e1 := e1.trans z3
                have e2 := e2.trans z3
                have e3 : Ext s3 s3 := Below.refl _ _
                (try go_wp2_with fail)
                refine hK.out _ _ (fun _ => gS) ?_
                clear hK K
                (try simp only [Act.put, List.getElem_toArray, List.getElem_cons_succ, List.getElem_cons_zero, List.setIfInBounds_toArray, List.set_cons_zero, List.set_cons_succ])
                refine wpAnyG_two 6 7 (by kernel_rfl) rfl rfl (by rfl) (by rfl) (fun K hK => ?_) (fun K hK => ?_)
                · go_simp
                  have gP := gS
                  go_at_call 46
                  refine (sub_f (HH1.out _ e1) (HH3.out _ e3) HFW.out HFKU.out (by omega)).mono ?_
                  rintro _ s4 ⟨b4, A4, k4, c4, B4, l4, d4, rfl, h4, z4, n4, m4⟩
                  have gS : Ext wr s4 := Ext.trans gS z4
                  have e1 := e1.trans z4
                  have e2 := e2.trans z4
                  have e3 := e3.trans z4
                  (try go_wp2_with fail)
                  refine hK.out _ _ (fun _ => gS) ?_
                  clear hK K
                  (try simp only [Act.put, List.getElem_toArray, List.getElem_cons_succ, List.getElem_cons_zero, List.setIfInBounds_toArray, List.set_cons_zero, List.set_cons_succ])
                  have gg := gS
                  refine wpAnyG_one 7 (by kernel_rfl) rfl (by rfl) (fun K hK => ?_)
                  go_simp
                  have gS := ext_alloc gS (.cells #[.bool false, .slice none 0 0, .slice none 0 0] 27)
                  (try go_wp2_with fail)
                  refine hK.out _ _ (fun _ => gS) ?_
                  clear hK K
                  (try simp only [Act.put, List.getElem_toArray, List.getElem_cons_succ, List.getElem_cons_zero, List.setIfInBounds_toArray, List.set_cons_zero, List.set_cons_succ])
                  refine wpAnyG_one 8 (by kernel_rfl) rfl (by rfl) (fun K hK => ?_)
                  go_simp
                  refine hK.out _ _ (fun h => absurd h (by decide)) ?_
                  clear hK K
                  (try simp only [Act.put, List.getElem_toArray, List.getElem_cons_succ, List.getElem_cons_zero, List.setIfInBounds_toArray, List.set_cons_zero, List.set_cons_succ])
                  refine wpAnyG_done (by kernel_rfl) ?_ _
                  go_wp2
                  go_meet
                  refine ⟨_, b4, A4, k4, c4, B4, l4, d4, rfl, gg.size, FBox.new _ _ _ _ _, h4.below (ext_alloc (Below.refl _ _) _), ext_alloc gg _, n4.mono gP.size, m4.mono gP.size⟩
                · go_simp
                  have hdl : s3.heap.size < (s3.alloc (.cells #[.bool false, .slice none 0 0, .slice none 0 0] 27)).heap.size := by simp
                  have hgb : wr.heap.size ≤ s3.heap.size := gS.size
                  have gS := ext_alloc gS (.cells #[.bool false, .slice none 0 0, .slice none 0 0] 27)
                  have e1 := ext_alloc e1 (.cells #[.bool false, .slice none 0 0, .slice none 0 0] 27)
                  have e2 := ext_alloc e2 (.cells #[.bool false, .slice none 0 0, .slice none 0 0] 27)
                  have e3 := ext_alloc e3 (.cells #[.bool false, .slice none 0 0, .slice none 0 0] 27)
                  have dF := FBox.new s3 (.bool false) (.slice none 0 0) (.slice none 0 0) 27
                  (try go_wp2_with fail)
                  refine hK.out _ _ (fun _ => gS) ?_
                  clear hK K
                  (try simp only [Act.put, List.getElem_toArray, List.getElem_cons_succ, List.getElem_cons_zero, List.setIfInBounds_toArray, List.set_cons_zero, List.set_cons_succ])
                  refine wpAnyG_one 6 (by kernel_rfl) rfl (by rfl) (fun K hK => ?_)
                  go_simp
                  have gP := gS
                  have hdp := hdl
                  go_at_call 46
                  refine (sub_f (HH1.out _ e1) (HH3.out _ e3) HFW.out HFKU.out (by omega)).mono ?_
                  rintro _ s4 ⟨b4, A4, k4, c4, B4, l4, d4, rfl, h4, z4, n4, m4⟩
                  have gS : Ext wr s4 := Ext.trans gS z4
                  have e1 := e1.trans z4
                  have e2 := e2.trans z4
                  have e3 := e3.trans z4
                  have dF := dF.below z4
                  have hdl : s3.heap.size < s4.heap.size := by have hq := z4.size; have hr := hdl; (try simp at hq hr); omega
                  (try go_wp2_with fail)
                  refine hK.out _ _ (fun _ => gS) ?_
                  clear hK K
                  (try simp only [Act.put, List.getElem_toArray, List.getElem_cons_succ, List.getElem_cons_zero, List.setIfInBounds_toArray, List.set_cons_zero, List.set_cons_succ])
                  obtain ⟨i0, i1, i2, j0, j1, j2⟩ := dF
                  refine wpAnyG_one 8 (by kernel_rfl) rfl (by rfl) (fun K hK => ?_)
                  go_simp
                  refine hK.out _ _ (fun h => absurd h (by decide)) ?_
                  clear hK K
                  (try simp only [Act.put, List.getElem_toArray, List.getElem_cons_succ, List.getElem_cons_zero, List.setIfInBounds_toArray, List.set_cons_zero, List.set_cons_succ])
                  refine wpAnyG_done (by kernel_rfl) ?_ _
                  go_wp2
                  go_meet
                  refine ⟨_, b4, A4, k4, c4, B4, l4, d4, rfl, hgb, FBox.put ⟨i0, i1, i2, j0, j1, j2⟩ _ _ _, h4.put n4 m4 (by have hr := hdp; (try simp at hr ⊢); (try omega)) _ _ _, ext_put gS hgb _ _ _, n4.mono gP.size, m4.mono gP.size⟩
              · go_simp
                have hdl : s2.heap.size < (s2.alloc (.cells #[.bool false, .slice none 0 0, .slice none 0 0] 27)).heap.size := by simp
                have hgb : wr.heap.size ≤ s2.heap.size := gS.size
                have gS := ext_alloc gS (.cells #[.bool false, .slice none 0 0, .slice none 0 0] 27)
                have e1 := ext_alloc e1 (.cells #[.bool false, .slice none 0 0, .slice none 0 0] 27)
                have e2 := ext_alloc e2 (.cells #[.bool false, .slice none 0 0, .slice none 0 0] 27)
                have dF := FBox.new s2 (.bool false) (.slice none 0 0) (.slice none 0 0) 27
                (try go_wp2_with fail)
                refine hK.out _ _ (fun _ => gS) ?_
                clear hK K
                (try simp only [Act.put, List.getElem_toArray, List.getElem_cons_succ, List.getElem_cons_zero, List.setIfInBounds_toArray, List.set_cons_zero, List.set_cons_succ])
                refine wpAnyG_one 5 (by kernel_rfl) rfl (by rfl) (fun K hK => ?_)
                go_simp
                go_at_call 47
                refine (mul_f (HH2.out _ e2) (HUV.out _ (HXR.out.trans gS)) (by omega)).mono ?_
                rintro _ s3 ⟨b3, A3, k3, c3, B3, l3, d3, rfl, h3, z3, n3, m3⟩
                have HH3 := Lib.hid (fun (w' : World) (h : Ext s3 w') => FracV.any (h3.below h) HFKU.out (by omega))
                have gS : Ext wr s3 := Ext.trans gS z3
                have e1 := e1.trans z3
                have e2 := e2.trans z3
                have dF := dF.below z3
                have hdl : s2.heap.size < s3.heap.size := by have hq := z3.size; have hr := hdl; (try simp at hq hr); omega
                have e3 : Ext s3 s3 := Below.refl _ _
                (try go_wp2_with fail)
                refine hK.out _ _ (fun _ => gS) ?_
                clear hK K
                (try simp only [Act.put, List.getElem_toArray, List.getElem_cons_succ, List.getElem_cons_zero, List.setIfInBounds_toArray, List.set_cons_zero, List.set_cons_succ])
                refine wpAnyG_one 6 (by kernel_rfl) rfl (by rfl) (fun K hK => ?_)
                go_simp
                have gP := gS
                have hdp := hdl
                go_at_call 46
                refine (sub_f (HH1.out _ e1) (HH3.out _ e3) HFW.out HFKU.out (by omega)).mono ?_
                rintro _ s4 ⟨b4, A4, k4, c4, B4, l4, d4, rfl, h4, z4, n4, m4⟩
                have gS : Ext wr s4 := Ext.trans gS z4
                have e1 := e1.trans z4
                have e2 := e2.trans z4
                have e3 := e3.trans z4
                have dF := dF.below z4
                have hdl : s2.heap.size < s4.heap.size := by have hq := z4.size; have hr := hdl; (try simp at hq hr); omega
                (try go_wp2_with fail)
                refine hK.out _ _ (fun _ => gS) ?_
                clear hK K
                (try simp only [Act.put, List.getElem_toArray, List.getElem_cons_succ, List.getElem_cons_zero, List.setIfInBounds_toArray, List.set_cons_zero, List.set_cons_succ])
                obtain ⟨i0, i1, i2, j0, j1, j2⟩ := dF
                refine wpAnyG_one 8 (by kernel_rfl) rfl (by rfl) (fun K hK => ?_)
                go_simp
                refine hK.out _ _ (fun h => absurd h (by decide)) ?_
                clear hK K
                (try simp only [Act.put, List.getElem_toArray, List.getElem_cons_succ, List.getElem_cons_zero, List.setIfInBounds_toArray, List.set_cons_zero, List.set_cons_succ])
                refine wpAnyG_done (by kernel_rfl) ?_ _
                go_wp2
                go_meet
                refine ⟨_, b4, A4, k4, c4, B4, l4, d4, rfl, hgb, FBox.put ⟨i0, i1, i2, j0, j1, j2⟩ _ _ _, h4.put n4 m4 (by have hr := hdp; (try simp at hr ⊢); (try omega)) _ _ _, ext_put gS hgb _ _ _, n4.mono gP.size, m4.mono gP.size⟩
            · go_simp
              have hdl : s1.heap.size < (s1.alloc (.cells #[.bool false, .slice none 0 0, .slice none 0 0] 27)).heap.size := by simp
              have hgb : wr.heap.size ≤ s1.heap.size := gS.size
              have gS := ext_alloc gS (.cells #[.bool false, .slice none 0 0, .slice none 0 0] 27)
              have e1 := ext_alloc e1 (.cells #[.bool false, .slice none 0 0, .slice none 0 0] 27)
              have dF := FBox.new s1 (.bool false) (.slice none 0 0) (.slice none 0 0) 27
              (try go_wp2_with fail)
              refine hK.out _ _ (fun _ => gS) ?_
              clear hK K
              (try simp only [Act.put, List.getElem_toArray, List.getElem_cons_succ, List.getElem_cons_zero, List.setIfInBounds_toArray, List.set_cons_zero, List.set_cons_succ])
              refine wpAnyG_one 3 (by kernel_rfl) rfl (by rfl) (fun K hK => ?_)
              go_simp
              go_at_call 27
              refine (uwhole_n (n := (j : Int) + 2) (by omega)).mono ?_
              rintro _ s2 ⟨b2, A2, k2, c2, B2, l2, d2, rfl, h2, z2, n2, m2⟩
              have HH2 := Lib.hid (fun (w' : World) (h : Ext s2 w') => FracV.any (h2.below h) HFK.out (by omega))
              have gS : Ext wr s2 := Ext.trans gS z2
              have e1 := e1.trans z2
              have dF := dF.below z2
              have hdl : s1.heap.size < s2.heap.size := by have hq := z2.size; have hr := hdl; (try simp at hq hr); omega
              have e2 : Ext s2 s2 := Below.refl _ _
              (try go_wp2_with fail)
              refine hK.out _ _ (fun _ => gS) ?_
              clear hK K
              (try simp only [Act.put, List.getElem_toArray, List.getElem_cons_succ, List.getElem_cons_zero, List.setIfInBounds_toArray, List.set_cons_zero, List.set_cons_succ])
              refine wpAnyG_one 5 (by kernel_rfl) rfl (by rfl) (fun K hK => ?_)
              go_simp
              go_at_call 47
              refine (mul_f (HH2.out _ e2) (HUV.out _ (HXR.out.trans gS)) (by omega)).mono ?_
              rintro _ s3 ⟨b3, A3, k3, c3, B3, l3, d3, rfl, h3, z3, n3, m3⟩
              have HH3 := Lib.hid (fun (w' : World) (h : Ext s3 w') => FracV.any (h3.below h) HFKU.out (by omega))
              have gS : Ext wr s3 := Ext.trans gS z3
              have e1 := e1.trans z3
              have e2 := e2.trans z3
              have dF := dF.below z3
              have hdl : s1.heap.size < s3.heap.size := by have hq := z3.size; have hr := hdl; (try simp at hq hr); omega
              have e3 : Ext s3 s3 := Below.refl _ _
              (try go_wp2_with fail)
              refine hK.out _ _ (fun _ => gS) ?_
              clear hK K
              (try simp only [Act.put, List.getElem_toArray, List.getElem_cons_succ, List.getElem_cons_zero, List.setIfInBounds_toArray, List.set_cons_zero, List.set_cons_succ])
              refine wpAnyG_one 6 (by kernel_rfl) rfl (by rfl) (fun K hK => ?_)
              go_simp
              have gP := gS
              have hdp := hdl
              go_at_call 46
              refine (sub_f (HH1.out _ e1) (HH3.out _ e3) HFW.out HFKU.out (by omega)).mono ?_
              rintro _ s4 ⟨b4, A4, k4, c4, B4, l4, d4, rfl, h4, z4, n4, m4⟩
              have gS : Ext wr s4 := Ext.trans gS z4
              have e1 := e1.trans z4
              have e2 := e2.trans z4
              have e3 := e3.trans z4
              have dF := dF.below z4
              have hdl : s1.heap.size < s4.heap.size := by have hq := z4.size; have hr := hdl; (try simp at hq hr); omega
              (try go_wp2_with fail)
              refine hK.out _ _ (fun _ => gS) ?_
              clear hK K
              (try simp only [Act.put, List.getElem_toArray, List.getElem_cons_succ, List.getElem_cons_zero, List.setIfInBounds_toArray, List.set_cons_zero, List.set_cons_succ])
              obtain ⟨i0, i1, i2, j0, j1, j2⟩ := dF
              refine wpAnyG_one 8 (by kernel_rfl) rfl (by rfl) (fun K hK => ?_)
              go_simp
              refine hK.out _ _ (fun h => absurd h (by decide)) ?_
              clear hK K
              (try simp only [Act.put, List.getElem_toArray, List.getElem_cons_succ, List.getElem_cons_zero, List.setIfInBounds_toArray, List.set_cons_zero, List.set_cons_succ])
              refine wpAnyG_done (by kernel_rfl) ?_ _
              go_wp2
              go_meet
              refine ⟨_, b4, A4, k4, c4, B4, l4, d4, rfl, hgb, FBox.put ⟨i0, i1, i2, j0, j1, j2⟩ _ _ _, h4.put n4 m4 (by have hr := hdp; (try simp at hr ⊢); (try omega)) _ _ _, ext_put gS hgb _ _ _, n4.mono gP.size, m4.mono gP.size⟩
          · go_simp
            have hdl : wr.heap.size < (wr.alloc (.cells #[.bool false, .slice none 0 0, .slice none 0 0] 27)).heap.size := by simp
            have hgb : wr.heap.size ≤ wr.heap.size := gS.size
            have gS := ext_alloc gS (.cells #[.bool false, .slice none 0 0, .slice none 0 0] 27)
            have dF : FBox (wr.alloc (.cells #[.bool false, .slice none 0 0, .slice none 0 0] 27)).drew wr.heap.size (.bool false) (.slice none 0 0) (.slice none 0 0) := FBox.new wr (.bool false) (.slice none 0 0) (.slice none 0 0) 27
            (try go_wp2_with fail)
            refine hK.out _ _ (fun _ => gS) ?_
            clear hK K
            (try simp only [Act.put, List.getElem_toArray, List.getElem_cons_succ, List.getElem_cons_zero, List.setIfInBounds_toArray, List.set_cons_zero, List.set_cons_succ])
            refine wpAnyG_one 1 (by kernel_rfl) rfl (by rfl) (fun K hK => ?_)
            go_simp
            go_at_call 27
            refine (uwhole_n (n := wt) (by omega)).mono ?_
            rintro _ s1 ⟨b1, A1, k1, c1, B1, l1, d1, rfl, h1, z1, n1, m1⟩
            have HH1 := Lib.hid (fun (w' : World) (h : Ext s1 w') => FracV.any (h1.below h) HFW.out (by omega))
            have gS : Ext wr s1 := Ext.trans gS z1
            have dF := dF.below z1
            have hdl : wr.heap.size < s1.heap.size := by have hq := z1.size; have hr := hdl; (try simp at hq hr); omega
            have e1 : Ext s1 s1 := Below.refl _ _
            (try go_wp2_with fail)
            refine hK.out _ _ (fun _ => gS) ?_
            clear hK K
            (try simp only [Act.put, List.getElem_toArray, List.getElem_cons_succ, List.getElem_cons_zero, List.setIfInBounds_toArray, List.set_cons_zero, List.set_cons_succ])
            refine wpAnyG_one 3 (by kernel_rfl) rfl (by rfl) (fun K hK => ?_)
            go_simp
            go_at_call 27
            refine (uwhole_n (n := (j : Int) + 2) (by omega)).mono ?_
            rintro _ s2 ⟨b2, A2, k2, c2, B2, l2, d2, rfl, h2, z2, n2, m2⟩
            have HH2 := Lib.hid (fun (w' : World) (h : Ext s2 w') => FracV.any (h2.below h) HFK.out (by omega))
            have gS : Ext wr s2 := Ext.trans gS z2
            have e1 := e1.trans z2
            have dF := dF.below z2
            have hdl : wr.heap.size < s2.heap.size := by have hq := z2.size; have hr := hdl; (try simp at hq hr); omega
            have e2 : Ext s2 s2 := Below.refl _ _
            (try go_wp2_with fail)
            refine hK.out _ _ (fun _ => gS) ?_
            clear hK K
            (try simp only [Act.put, List.getElem_toArray, List.getElem_cons_succ, List.getElem_cons_zero, List.setIfInBounds_toArray, List.set_cons_zero, List.set_cons_succ])
            refine wpAnyG_one 5 (by kernel_rfl) rfl (by rfl) (fun K hK => ?_)
            go_simp
            go_at_call 47
            refine (mul_f (HH2.out _ e2) (HUV.out _ (HXR.out.trans gS)) (by omega)).mono ?_
            rintro _ s3 ⟨b3, A3, k3, c3, B3, l3, d3, rfl, h3, z3, n3, m3⟩
            have HH3 := Lib.hid (fun (w' : World) (h : Ext s3 w') => FracV.any (h3.below h) HFKU.out (by omega))
            have gS : Ext wr s3 := Ext.trans gS z3
            have e1 := e1.trans z3
            have e2 := e2.trans z3
            have dF := dF.below z3
            have hdl : wr.heap.size < s3.heap.size := by have hq := z3.size; have hr := hdl; (try simp at hq hr); omega
            have e3 : Ext s3 s3 := Below.refl _ _
            (try go_wp2_with fail)
            refine hK.out _ _ (fun _ => gS) ?_
            clear hK K
            (try simp only [Act.put, List.getElem_toArray, List.getElem_cons_succ, List.getElem_cons_zero, List.setIfInBounds_toArray, List.set_cons_zero, List.set_cons_succ])
            refine wpAnyG_one 6 (by kernel_rfl) rfl (by rfl) (fun K hK => ?_)
            go_simp
            have gP := gS
            have hdp := hdl
            go_at_call 46
            refine (sub_f (HH1.out _ e1) (HH3.out _ e3) HFW.out HFKU.out (by omega)).mono ?_
            rintro _ s4 ⟨b4, A4, k4, c4, B4, l4, d4, rfl, h4, z4, n4, m4⟩
            have gS : Ext wr s4 := Ext.trans gS z4
            have e1 := e1.trans z4
            have e2 := e2.trans z4
            have e3 := e3.trans z4
            have dF := dF.below z4
            have hdl : wr.heap.size < s4.heap.size := by have hq := z4.size; have hr := hdl; (try simp at hq hr); omega
            (try go_wp2_with fail)
            refine hK.out _ _ (fun _ => gS) ?_
            clear hK K
            (try simp only [Act.put, List.getElem_toArray, List.getElem_cons_succ, List.getElem_cons_zero, List.setIfInBounds_toArray, List.set_cons_zero, List.set_cons_succ])
            obtain ⟨i0, i1, i2, j0, j1, j2⟩ := dF
            refine wpAnyG_one 8 (by kernel_rfl) rfl (by rfl) (fun K hK => ?_)
            go_simp
            refine hK.out _ _ (fun h => absurd h (by decide)) ?_
            clear hK K
            (try simp only [Act.put, List.getElem_toArray, List.getElem_cons_succ, List.getElem_cons_zero, List.setIfInBounds_toArray, List.set_cons_zero, List.set_cons_succ])
            refine wpAnyG_done (by kernel_rfl) ?_ _
            go_wp2
            go_meet
            refine ⟨_, b4, A4, k4, c4, B4, l4, d4, rfl, hgb, FBox.put ⟨i0, i1, i2, j0, j1, j2⟩ _ _ _, h4.put n4 m4 (by have hr := hdp; (try simp at hr ⊢); (try omega)) _ _ _, ext_put gS hgb _ _ _, n4.mono gP.size, m4.mono gP.size⟩
        case rest =>
          obtain ⟨BX, c8, A8, k8, l8, A8', k8', l8', rfl, hBX, gX, vX, xX, nX, nX'⟩ := hcut
          obtain ⟨W10, hW10⟩ : ∃ W10 : World, W10 = wc := ⟨_, rfl⟩
          subst hW10
          clear HS
          obtain ⟨zz, hzz⟩ : ∃ zz, zz = cmpQ (absQ (nxtQ wt u j)) (absQ (restTo wt u j)) := ⟨_, rfl⟩
          have hc : zz < 0 ↔ absQ (nxtQ wt u j) < absQ (restTo wt u j) := by rw [hzz]; exact cmpQ_neg _ _
          have HZZ := Lib.hid hzz.symm
          have HXA := Lib.hid (fun (w' : World) (h : Ext W10 w') => FracV.any (vX.below h) (HNF.out j (by omega)) (by omega))
          have HRA := Lib.hid (fun (w' : World) (h : Ext W10 w') => FracV.any (HMV.out _ (xX.trans h)) (HRF.out j (by omega)) (by omega))
          have HXB := Lib.hid (absQ_fb (HNF.out j (by omega)))
          have HRB := Lib.hid (absQ_fb (HRF.out j (by omega)))
          have HGX := Lib.hid (fun (w' : World) (h : Ext W10 w') => gX.below h)
          have HVX := Lib.hid (fun (w' : World) (h : Ext W10 w') => vX.below h)
          have HXX := Lib.hid xX
          have HNX := Lib.hid (And.intro nX nX')
          have HS := Lib.hid (fun (w' : World) (h : Ext W10 w') => (⟨⟨(HGX.out _ h).1, (HGX.out _ h).2.1, (HGX.out _ h).2.2.1⟩, (HM.out _ (xX.trans h)).1, (HM.out _ (xX.trans h)).2.1, (HM.out _ (xX.trans h)).2.2.1⟩ : (w'.cell? ⟨BX, 0, none⟩ = some (.bool c8) ∧ w'.cell? ⟨BX, 1, none⟩ = some (.slice A8 k8 l8) ∧ w'.cell? ⟨BX, 2, none⟩ = some (.slice A8' k8' l8')) ∧ w'.cell? ⟨BR, 0, none⟩ = some (.bool cc) ∧ w'.cell? ⟨BR, 1, none⟩ = some (.slice MA mk ml) ∧ w'.cell? ⟨BR, 2, none⟩ = some (.slice MA' mk' ml')))
          clear hzz gX vX xX nX nX'
          by_cases hq : absQ (nxtQ wt u j) < absQ (restTo wt u j)
          · have hz0 : zz < 0 := hc.2 hq
            have HRS := Lib.hid (show restTo wt u (j + 1) = nxtQ wt u j from by rw [restTo_succ, if_pos hq])
            clear hc hq
            go_upto_region 11 with (fail)
            refine wp_region_G (fun w' => Ext W10 w') [5] (by kernel_rfl) ?_
            have gS : Ext W10 W10.drew := (Below.refl _ _).drew
            refine wpAnyG_take 0 (v := ?_) rfl (by kernel_rfl) (by kernel_rfl) (by kernel_rfl) (by kernel_rfl) (by rfl) (by kernel_rfl) (fun _ _ _ h => h) (by rfl) (fun w' hw' => ?_) gS ?_
            rotate_left
            focus (have hh := HS.out _ hw'; go_split_ands; go_simp; (try with_reducible rfl); done)
            (try simp only [Act.put, List.getElem_toArray, List.getElem_cons_succ, List.getElem_cons_zero, List.setIfInBounds_toArray, List.set_cons_zero, List.set_cons_succ])
            refine wpAnyG_take 2 (v := ?_) rfl (by kernel_rfl) (by kernel_rfl) (by kernel_rfl) (by kernel_rfl) (by rfl) (by kernel_rfl) (fun _ _ _ h => h) (by rfl) (fun w' hw' => ?_) gS ?_
            rotate_left
            focus (have hh := HS.out _ hw'; go_split_ands; go_simp; (try with_reducible rfl); done)
            (try simp only [Act.put, List.getElem_toArray, List.getElem_cons_succ, List.getElem_cons_zero, List.setIfInBounds_toArray, List.set_cons_zero, List.set_cons_succ])
            refine wpAnyG_one 1 (by kernel_rfl) rfl (by rfl) (fun K hK => ?_)
            go_simp
            go_at_call 29
            refine (udist (HXA.out _ gS) (by omega)).mono ?_
            rintro _ s1 ⟨b1, A1, k1, c1, B1, l1, d1, rfl, h1, z1, n1, m1⟩
            have gS : Ext W10 s1 := Ext.trans gS z1
            have HH1 := Lib.hid (fun (w' : World) (h : Ext s1 w') => FracV.any (h1.below h) HXB.out (by omega))
            have e1 : Ext s1 s1 := Below.refl _ _
            (try go_wp2_with fail)
            refine hK.out _ _ (fun _ => gS) ?_
            clear hK K
            (try simp only [Act.put, List.getElem_toArray, List.getElem_cons_succ, List.getElem_cons_zero, List.setIfInBounds_toArray, List.set_cons_zero, List.set_cons_succ])
            refine wpAnyG_one 3 (by kernel_rfl) rfl (by rfl) (fun K hK => ?_)
            go_simp
            go_at_call 29
            refine (udist (HRA.out _ gS) (by omega)).mono ?_
            rintro _ s2 ⟨b2, A2, k2, c2, B2, l2, d2, rfl, h2, z2, n2, m2⟩
            have gS : Ext W10 s2 := Ext.trans gS z2
            have e1 := e1.trans z2
            (try go_wp2_with fail)
            refine hK.out _ _ (fun _ => gS) ?_
            clear hK K
            (try simp only [Act.put, List.getElem_toArray, List.getElem_cons_succ, List.getElem_cons_zero, List.setIfInBounds_toArray, List.set_cons_zero, List.set_cons_succ])
            refine wpAnyG_one 4 (by kernel_rfl) rfl (by rfl) (fun K hK => ?_)
            go_simp
            go_at_call 9
            refine (cmp_e (HH1.out _ e1) (FracV.any h2 HRB.out (by omega)) (by omega) HZZ.out).mono ?_
            rintro _ s3 ⟨rfl, z3⟩
            have gS : Ext W10 s3 := Ext.trans gS z3
            (try go_wp2_with fail)
            refine hK.out _ _ (fun _ => gS) ?_
            clear hK K
            (try simp only [Act.put, List.getElem_toArray, List.getElem_cons_succ, List.getElem_cons_zero, List.setIfInBounds_toArray, List.set_cons_zero, List.set_cons_succ])
            refine wpAnyG_one 5 (by kernel_rfl) rfl (by rfl) (fun K hK => ?_)
            go_simp
            refine hK.out _ _ (fun h => absurd h (by decide)) ?_
            clear hK K
            (try simp only [Act.put, List.getElem_toArray, List.getElem_cons_succ, List.getElem_cons_zero, List.setIfInBounds_toArray, List.set_cons_zero, List.set_cons_succ])
            refine wpAnyG_done (by kernel_rfl) ?_ _
            go_upto_region 12 with (fail)
            have GS := Lib.hid gS
            have HS := Lib.hid (fun (w' : World) (h : Ext s3 w') => (HS.out w' (GS.out.trans h)).1)
            refine wp_region_G (fun w' => Ext s3 w') [3] (by kernel_rfl) ?_
            have gS : Ext s3 s3.drew := (Below.refl _ _).drew
            refine wpAnyG_take 0 (v := ?_) rfl (by kernel_rfl) (by kernel_rfl) (by kernel_rfl) (by kernel_rfl) (by rfl) (by kernel_rfl) (fun _ _ _ h => h) (by rfl) (fun w' hw' => ?_) gS ?_
            rotate_left
            focus (go_simp; (try with_reducible rfl); done)
            (try simp only [Act.put, List.getElem_toArray, List.getElem_cons_succ, List.getElem_cons_zero, List.setIfInBounds_toArray, List.set_cons_zero, List.set_cons_succ])
            refine wpAnyG_take 1 (v := ?_) rfl (by kernel_rfl) (by kernel_rfl) (by kernel_rfl) (by kernel_rfl) (by rfl) (by kernel_rfl) (fun _ _ _ h => h) (by rfl) (fun w' hw' => ?_) gS ?_
            rotate_left
            focus (have hh := HS.out _ hw'; go_split_ands; go_simp; (try with_reducible rfl); done)
            (try simp only [Act.put, List.getElem_toArray, List.getElem_cons_succ, List.getElem_cons_zero, List.setIfInBounds_toArray, List.set_cons_zero, List.set_cons_succ])
            refine wpAnyG_take 2 (v := ?_) rfl (by kernel_rfl) (by kernel_rfl) (by kernel_rfl) (by kernel_rfl) (by rfl) (by kernel_rfl) (fun _ _ _ h => h) (by rfl) (fun w' hw' => ?_) gS ?_
            rotate_left
            focus (go_simp; (try with_reducible rfl); done)
            (try simp only [Act.put, List.getElem_toArray, List.getElem_cons_succ, List.getElem_cons_zero, List.setIfInBounds_toArray, List.set_cons_zero, List.set_cons_succ])
            obtain ⟨m0, m1, m2, gm0, gm1, gm2⟩ := HM.out _ (HXX.out.trans GS.out)
            have D := HM.out _ (HXX.out.trans GS.out)
            have V := HVX.out _ GS.out
            have E := HXM.out.trans (HXX.out.trans GS.out)
            refine wpAnyG_one 3 (by kernel_rfl) rfl (by rfl) (fun K hK => ?_)
            go_simp
            refine hK.out _ _ (fun h => absurd h (by decide)) ?_
            clear hK K
            (try simp only [Act.put, List.getElem_toArray, List.getElem_cons_succ, List.getElem_cons_zero, List.setIfInBounds_toArray, List.set_cons_zero, List.set_cons_succ])
            refine wpAnyG_done (by kernel_rfl) ?_ _
            go_wp2
            go_roundw
            case rel => exact ⟨j + 1, (j : Int) + 2, by omega, rfl, by go_num, c8, A8, k8, l8, A8', k8', l8', FBox.put D _ _ _, by rw [HRS.out]; exact FracV.put V HNX.out.1 HNX.out.2 hMl _ _ _, (ext_put E hBR _ _ _).drew, HNX.out.1.mono HXM.out.size, HNX.out.2.mono HXM.out.size⟩
            case measure => simp [intOf]; omega
          · have hz0 : ¬ zz < 0 := fun h => hq (hc.1 h)
            have HRS := Lib.hid (show restTo wt u (j + 1) = restTo wt u j from by rw [restTo_succ, if_neg hq])
            clear hc hq
            go_upto_region 11 with (fail)
            refine wp_region_G (fun w' => Ext W10 w') [5] (by kernel_rfl) ?_
            have gS : Ext W10 W10.drew := (Below.refl _ _).drew
            refine wpAnyG_take 0 (v := ?_) rfl (by kernel_rfl) (by kernel_rfl) (by kernel_rfl) (by kernel_rfl) (by rfl) (by kernel_rfl) (fun _ _ _ h => h) (by rfl) (fun w' hw' => ?_) gS ?_
            rotate_left
            focus (have hh := HS.out _ hw'; go_split_ands; go_simp; (try with_reducible rfl); done)
            (try simp only [Act.put, List.getElem_toArray, List.getElem_cons_succ, List.getElem_cons_zero, List.setIfInBounds_toArray, List.set_cons_zero, List.set_cons_succ])
            refine wpAnyG_take 2 (v := ?_) rfl (by kernel_rfl) (by kernel_rfl) (by kernel_rfl) (by kernel_rfl) (by rfl) (by kernel_rfl) (fun _ _ _ h => h) (by rfl) (fun w' hw' => ?_) gS ?_
            rotate_left
            focus (have hh := HS.out _ hw'; go_split_ands; go_simp; (try with_reducible rfl); done)
            (try simp only [Act.put, List.getElem_toArray, List.getElem_cons_succ, List.getElem_cons_zero, List.setIfInBounds_toArray, List.set_cons_zero, List.set_cons_succ])
            refine wpAnyG_one 1 (by kernel_rfl) rfl (by rfl) (fun K hK => ?_)
            go_simp
            go_at_call 29
            refine (udist (HXA.out _ gS) (by omega)).mono ?_
            rintro _ s1 ⟨b1, A1, k1, c1, B1, l1, d1, rfl, h1, z1, n1, m1⟩
            have gS : Ext W10 s1 := Ext.trans gS z1
            have HH1 := Lib.hid (fun (w' : World) (h : Ext s1 w') => FracV.any (h1.below h) HXB.out (by omega))
            have e1 : Ext s1 s1 := Below.refl _ _
            (try go_wp2_with fail)
            refine hK.out _ _ (fun _ => gS) ?_
            clear hK K
            (try simp only [Act.put, List.getElem_toArray, List.getElem_cons_succ, List.getElem_cons_zero, List.setIfInBounds_toArray, List.set_cons_zero, List.set_cons_succ])
            refine wpAnyG_one 3 (by kernel_rfl) rfl (by rfl) (fun K hK => ?_)
            go_simp
            go_at_call 29
            refine (udist (HRA.out _ gS) (by omega)).mono ?_
            rintro _ s2 ⟨b2, A2, k2, c2, B2, l2, d2, rfl, h2, z2, n2, m2⟩
            have gS : Ext W10 s2 := Ext.trans gS z2
            have e1 := e1.trans z2
            (try go_wp2_with fail)
            refine hK.out _ _ (fun _ => gS) ?_
            clear hK K
            (try simp only [Act.put, List.getElem_toArray, List.getElem_cons_succ, List.getElem_cons_zero, List.setIfInBounds_toArray, List.set_cons_zero, List.set_cons_succ])
            refine wpAnyG_one 4 (by kernel_rfl) rfl (by rfl) (fun K hK => ?_)
            go_simp
            go_at_call 9
            refine (cmp_e (HH1.out _ e1) (FracV.any h2 HRB.out (by omega)) (by omega) HZZ.out).mono ?_
            rintro _ s3 ⟨rfl, z3⟩
            have gS : Ext W10 s3 := Ext.trans gS z3
            (try go_wp2_with fail)
            refine hK.out _ _ (fun _ => gS) ?_
            clear hK K
            (try simp only [Act.put, List.getElem_toArray, List.getElem_cons_succ, List.getElem_cons_zero, List.setIfInBounds_toArray, List.set_cons_zero, List.set_cons_succ])
            refine wpAnyG_one 5 (by kernel_rfl) rfl (by rfl) (fun K hK => ?_)
            go_simp
            refine hK.out _ _ (fun h => absurd h (by decide)) ?_
            clear hK K
            (try simp only [Act.put, List.getElem_toArray, List.getElem_cons_succ, List.getElem_cons_zero, List.setIfInBounds_toArray, List.set_cons_zero, List.set_cons_succ])
            refine wpAnyG_done (by kernel_rfl) ?_ _
            go_wp2
            go_roundw
            case rel => exact ⟨j + 1, z, by omega, rfl, by go_num, cc, MA, mk, ml, MA', mk', ml', HM.out _ (HXX.out.trans gS), by rw [HRS.out]; exact HMV.out _ (HXX.out.trans gS), HXM.out.trans (HXX.out.trans gS), HNM.out.1, HNM.out.2⟩
            case measure => simp [intOf]; omega
      · have hjm1 : m - 1 = j := by omega
        have HJ := Lib.hid hjm1
        have hk1 : ¬ (j : Int) + 2 ≤ (m : Int) := by omega
        have HS := Lib.hid (fun (w' : World) (h : Ext wr w') => (⟨(hM.below h).1, (hM.below h).2.1, (hM.below h).2.2.1⟩ : w'.cell? ⟨BR, 0, none⟩ = some (.bool cc) ∧ w'.cell? ⟨BR, 1, none⟩ = some (.slice MA mk ml) ∧ w'.cell? ⟨BR, 2, none⟩ = some (.slice MA' mk' ml')))
        have HXM := Lib.hid xM
        have HMV := Lib.hid (fun (w' : World) (h : Ext wr w') => vM.below h)
        have HNM := Lib.hid (And.intro nM nM')
        clear hjm1 hM xM vM nM nM'
        go_upto_region 13 with (fail)
        refine wp_region_G (fun w' => Ext wr w') [3, 4] (by kernel_rfl) ?_
        have gS : Ext wr wr.drew := (Below.refl _ _).drew
        refine wpAnyG_take 0 (v := ?_) rfl (by kernel_rfl) (by kernel_rfl) (by kernel_rfl) (by kernel_rfl) (by rfl) (by kernel_rfl) (fun _ _ _ h => h) (by rfl) (fun w' hw' => ?_) gS ?_
        rotate_left
        focus (go_simp; (try with_reducible rfl); done)
        (try simp only [Act.put, List.getElem_toArray, List.getElem_cons_succ, List.getElem_cons_zero, List.setIfInBounds_toArray, List.set_cons_zero, List.set_cons_succ])
        refine wpAnyG_take 1 (v := ?_) rfl (by kernel_rfl) (by kernel_rfl) (by kernel_rfl) (by kernel_rfl) (by rfl) (by kernel_rfl) (fun _ _ _ h => h) (by rfl) (fun w' hw' => ?_) gS ?_
        rotate_left
        focus (have hh := HS.out _ hw'; go_split_ands; go_simp; (try with_reducible rfl); done)
        (try simp only [Act.put, List.getElem_toArray, List.getElem_cons_succ, List.getElem_cons_zero, List.setIfInBounds_toArray, List.set_cons_zero, List.set_cons_succ])
        refine wpAnyG_take 2 (v := ?_) rfl (by kernel_rfl) (by kernel_rfl) (by kernel_rfl) (by kernel_rfl) (by rfl) (by kernel_rfl) (fun _ _ _ h => h) (by rfl) (fun w' hw' => ?_) gS ?_
        rotate_left
        focus (go_simp; (try with_reducible rfl); done)
        (try simp only [Act.put, List.getElem_toArray, List.getElem_cons_succ, List.getElem_cons_zero, List.setIfInBounds_toArray, List.set_cons_zero, List.set_cons_succ])
        obtain ⟨r0, r1, r2, g0, g1, g2⟩ := HFX.out _ HXM.out
        have V := HMV.out _ (Below.refl _ _)
        have E := HXU.out.trans HXM.out
        refine wpAnyG_one 3 (by kernel_rfl) rfl (by rfl) (fun K hK => ?_)
        go_simp
        refine hK.out _ _ (fun h => absurd h (by decide)) ?_
        clear hK K
        (try simp only [Act.put, List.getElem_toArray, List.getElem_cons_succ, List.getElem_cons_zero, List.setIfInBounds_toArray, List.set_cons_zero, List.set_cons_succ])
        refine wpAnyG_one 4 (by kernel_rfl) rfl (by rfl) (fun K hK => ?_)
        go_simp
        refine hK.out _ _ (fun h => absurd h (by decide)) ?_
        clear hK K
        (try simp only [Act.put, List.getElem_toArray, List.getElem_cons_succ, List.getElem_cons_zero, List.setIfInBounds_toArray, List.set_cons_zero, List.set_cons_succ])
        refine wpAnyG_done (by kernel_rfl) ?_ _
        go_wp2
        obtain ⟨q0, q1, q2⟩ := set3 r0 r1 r2 (.bool cc) (.slice MA mk ml) (.slice MA' mk' ml')
        refine bodyPost_ret (v := .tuple #[.int .i64 z, .agg #[.bool cc, .slice MA mk ml, .slice MA' mk' ml'], .int .i64 0]) (by simp [results, Tryz.results28, go_sem, q0, q1, q2]) rfl ?_
        rw [HJ.out]
        exact GivesMu.drew (GivesMu.box (B := w.heap.size + 1) E V (HNM.out.1.mono (by omega)) (HNM.out.2.mono (by omega)) (by omega))

end Go.Proofs.YtbplkienkhinmaaGreatDoor
