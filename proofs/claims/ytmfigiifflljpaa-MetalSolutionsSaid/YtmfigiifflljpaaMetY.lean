/- metal: the reference's reduced. -/
import Derived.Test.YtmfigiifflljpaaMetX
set_option linter.unusedVariables false
set_option linter.unusedSimpArgs false
set_option maxRecDepth 100000
namespace Go.Proofs.Ytmfigiifflljpaa
open Go.RowKit Num

theorem det_rrefs_fb {M : Mx} {n C L : Nat} (h : FBm M n C L) (hL : 1 ≤ L) : ∀ c, c ≤ C → FB (rrefs M n c).det (3 + 7 ^ c * L)
  | 0, _ => fb_oneM.mono (by omega)
  | c + 1, hc => by
    have h1 := det_rrefs_fb h hL c (by omega)
    have h2 := fbm_rrefs h hL c (by omega)
    have he := (ech M n c).len
    have hp := Nat.mul_le_mul_right L (show 7 ^ c * 1 ≤ 7 ^ c * 7 from Nat.mul_le_mul_left _ (by decide))
    rw [Nat.mul_one] at hp
    have e7 : 7 ^ (c + 1) * L = 7 * (7 ^ c * L) := by rw [Nat.pow_succ, Nat.mul_comm (7 ^ c) 7, Nat.mul_assoc]
    rw [rrefs_succ, e7]
    obtain ⟨X, hX⟩ : ∃ X, X = 7 ^ c * L := ⟨_, rfl⟩
    rw [← hX] at h1 h2 ⊢
    obtain ⟨⟨a1, a2⟩, _, _⟩ := piv_spec (rrefs M n c).m (n := n) (c := c) (k := (rrefs M n c).leads.length) he
    by_cases hp : piv (rrefs M n c).m n c (rrefs M n c).leads.length = n
    · rw [stepR_no hp]
      exact fb_zeroM.mono (by omega)
    · rw [stepR_yes hp]
      show FB (_ * _) _
      have h3 : FB (if piv (rrefs M n c).m n c (rrefs M n c).leads.length = (rrefs M n c).leads.length then (rrefs M n c).det else -(rrefs M n c).det) (3 + X) := by
        split
        · exact h1
        · exact FB.neg h1
      exact (FB.mul h3 (h2 _ c (by omega) (by omega)) (by omega)).mono (by omega)
theorem rd_det {R s : Rd} {n c k p : Nat} {a' : Rat} {S1 : Mx} (h : R = stepR s n c) (hk : k = s.leads.length) (hp : p = piv s.m n c k) (hn : p < n) (ha : a' = if p = k then s.det else -s.det) (h1 : S1 = swp s.m k p) : R.det = a' * S1 k c := by
  subst h ha h1
  subst hk
  subst hp
  rw [stepR_yes (by omega), show ∀ p, swp s.m s.leads.length p s.leads.length = s.m p from fun p => by rw [swp_at, if_pos rfl]]
theorem rd_det0 {R s : Rd} {n c k p : Nat} (h : R = stepR s n c) (hk : k = s.leads.length) (hp : p = piv s.m n c k) (hn : p = n) : R.det = 0 := by
  subst h
  subst hk
  rw [stepR_no (by omega)]
/-- What the reference's reduced form gives besides: the determinant. -/
def GivesRd3 (w : World) (n C : Nat) (s : Rd) (e : Ending) (w' : World) : Prop :=
  ∃ A c A' c' b S k l T k' l', e = .returned (.tuple #[.slice A n c, .slice A' s.leads.length c', .agg #[.bool b, .slice S k l, .slice T k' l']]) ∧ EMat true w' (.slice A n c) n C s.m ∧ IntsV w' (.slice A' s.leads.length c') (s.leads.map (fun l : Nat => (l : Int))) ∧ FracV w' b (.slice S k l) (.slice T k' l') s.det ∧ Ext w w'
/-- Rows apart from a box and from a list. -/
def ApR (us : List Value) (B : Nat) (lv : Value) : Prop := ∀ u ∈ us, ∀ b, u.ownBlock = some b → b ≠ B ∧ lv.ownBlock ≠ some b
theorem ApR.sub {us us' : List Value} {B : Nat} {lv : Value} (h : ApR us B lv) (hs : ∀ u ∈ us', u ∈ us) : ApR us' B lv := fun u hu => h u (hs u hu)
theorem ApR.set {us : List Value} {B k : Nat} {lv u' : Value} {w : World} (h : ApR us B lv) (hn : New w.heap.size u') (hB : B < w.heap.size) (hlv : ∀ g, lv.ownBlock = some g → g < w.heap.size) : ApR (us.set k u') B lv := fun u hu b hb => by
  rcases List.mem_or_eq_of_mem_set hu with hu | rfl
  · exact h u hu b hb
  · have := hn b hb
    exact ⟨by omega, fun e => by have := hlv b e; omega⟩
theorem ApR.grow {us : List Value} {B : Nat} {lv lv' : Value} {w : World} (h : ApR us B lv) (hw : lv'.ownBlock = lv.ownBlock ∨ New w.heap.size lv') (hlt : ∀ u ∈ us, ∀ b, u.ownBlock = some b → b < w.heap.size) : ApR us B lv' := fun u hu b hb => ⟨(h u hu b hb).1, fun e => by
  rcases hw with hw | hw
  · exact (h u hu b hb).2 (by rw [← hw]; exact e)
  · have := hw b e
    have := hlt u hu b hb
    omega⟩
theorem ApR.box {us : List Value} {B : Nat} {lv : Value} (h : ApR us B lv) : ∀ u ∈ us, u.ownBlock ≠ some B := fun u hu e => (h u hu B e).1 rfl
theorem box_grown (w : World) (B : Nat) (x y z : Value) : w.grownBy (((w.setCell ⟨B, 0, none⟩ x).setCell ⟨B, 1, none⟩ y).setCell ⟨B, 2, none⟩ z) (some B) := grownBy_two (grownBy_two (setCell_grown _ _ _ _) (setCell_grown _ _ _ _)) (setCell_grown _ _ _ _)
theorem MatO.boxW2 {K : Bool} {base : Nat} {w : World} {v : Value} {n c : Nat} {us xs : List Value} {M : Mx} {B : Nat} (h : MatO K base w v n c us (bxV B :: xs) M) (hs : ∀ u ∈ us, u ∈ xs) (hB : v.ownBlock ≠ some B ∧ ∀ u ∈ us, u.ownBlock ≠ some B) (hlt : B < w.heap.size) (x y z : Value) : MatO K base (((w.setCell ⟨B, 0, none⟩ x).setCell ⟨B, 1, none⟩ y).setCell ⟨B, 2, none⟩ z) v n c us (bxV B :: xs) M :=
  h.other hs (fun b hb => by cases hb; exact hB) (box_grown _ _ _ _ _) (.inl rfl) (fun b hb => by cases hb; simp; exact hlt)
theorem MatO.efs {K : Bool} {base : Nat} {w : World} {v u : Value} {n c k : Nat} {us xs : List Value} {M : Mx} (h : MatO K base w v n c us xs M) (hu : us[k]? = some u) : EFs K w u c (M k) := by
  obtain ⟨ts, h1, h2, h3⟩ := h.row k u hu
  exact ownsRow_efs h1 h2 fun j t ht => (h3 j t ht).1
theorem RowF.efs {base : Nat} {w : World} {v : Value} {n : Nat} {f : Nat → Rat} (h : RowF base w v n n f) : EFs true w v n f := by
  obtain ⟨ts, h1, h2, h3⟩ := h
  exact ownsRow_efs h1 h2 fun j t ht => .inl ((h3 j t ht).1 (by have := (List.getElem?_eq_some_iff.1 ht).1; omega))
theorem RowF.new {base : Nat} {w : World} {v : Value} {n k : Nat} {f : Nat → Rat} (h : RowF base w v n k f) : New base v := by
  obtain ⟨ts, h1, _⟩ := h
  exact fun b hb => (h1.lt b hb).1
theorem narrow3 {K : Bool} {base : Nat} {w : World} {v : Value} {n c k : Nat} {us : List Value} {a b u' : Value} {M : Mx} (h : MatO K base w v n c (us.set k u') (u' :: a :: b :: us) M) : MatO K base w v n c (us.set k u') (a :: b :: us.set k u') M :=
  h.narrow (fun u hu => List.mem_cons_of_mem _ (List.mem_cons_of_mem _ hu)) (fun u hu => by
    rcases List.mem_cons.1 hu with rfl | hu
    · exact List.mem_cons_of_mem _ List.mem_cons_self
    · rcases List.mem_cons.1 hu with rfl | hu
      · exact List.mem_cons_of_mem _ (List.mem_cons_of_mem _ List.mem_cons_self)
      · rcases List.mem_or_eq_of_mem_set hu with hu | rfl
        · exact List.mem_cons_of_mem _ (List.mem_cons_of_mem _ (List.mem_cons_of_mem _ hu))
        · exact List.mem_cons_self)
theorem swap3 {K : Bool} {base : Nat} {w : World} {v : Value} {n c : Nat} {us : List Value} {a b : Value} {M : Mx} (h : MatO K base w v n c us (a :: b :: us) M) : MatO K base w v n c us (b :: a :: us) M :=
  h.narrow (fun u hu => List.mem_cons_of_mem _ (List.mem_cons_of_mem _ hu)) (fun u hu => by
    rcases List.mem_cons.1 hu with rfl | hu
    · exact List.mem_cons_of_mem _ List.mem_cons_self
    · rcases List.mem_cons.1 hu with rfl | hu
      · exact List.mem_cons_self
      · exact List.mem_cons_of_mem _ (List.mem_cons_of_mem _ hu))
theorem fr_v {v : Value} {w w' : World} {gv n cv k : Nat} {u : Value} (hv : v = .slice (some ⟨gv, 0, none⟩) n cv) (hE : Ext w w') : Fr v [] w (w'.setCell ⟨gv, k, none⟩ u) :=
  (Fr.of_ext hE).trans (Fr.of_grown (setCell_grown _ _ _ _) (.inl (by rw [hv]; rfl)))

set_option maxHeartbeats 32000000 in
theorem rred_n {K : Bool} {v : Value} {n C L : Nat} {M : Mx} {w : World} (hv : EMat K w v n C M) (hL3 : 3 ≤ L) (hL : L ≤ 1000) (hfb : FBm M n C L) (hn : n ≤ 8) (hC : C ≤ 9) (hz : n = 0 → C = 0) :
    Calls Try.prog 43 #[v] w (GivesRd3 w n C (rrefs M n C)) := by
  have HV := Lib.hid (fun (w' : World) (h : Ext w w') => hv.below h)
  have HCO := Lib.hid (fun (w' : World) (h : Ext w w') => (hv.below h).rcols hz)
  have HB := Lib.hid (fun i j (hi : i < n) (hj : j < C) => hfb i j hi hj)
  have HBR := Lib.hid (fun c (hc : c ≤ C) => (fbm_rrefs hfb (by omega) c hc).mono (pow7_le (c := c) (L := L) (by omega) hL))
  have HDB := Lib.hid (fun c (hc : c ≤ C) => (det_rrefs_fb hfb (by omega) c hc).mono (M := 40353607003) (by have := pow7_le (c := c) (L := L) (by omega) hL; omega))
  have HZ := Lib.hid hz
  obtain ⟨A0, cap, rfl, hc1, hc2⟩ := hv.form
  obtain ⟨i0, hi, hz0, hz1, hz2⟩ := info_parts info_frac
  obtain ⟨j0, hj, hy0, hy1, hy2⟩ := info_parts info_fl
  obtain ⟨i1, hi1', hx0', hx1', hx2'⟩ := info_parts info_int
  clear hv hfb hz
  go_enter Try.func43, Try.ntmps43
  go_upto_region 1 with (fail)
  have hE3 := box_rest w (.bool false) (.slice none 0 0) (.slice none 0 0) 34
  have hF0 := FBox.new w (.bool false) (.slice none 0 0) (.slice none 0 0) 34
  have x0 : Ext w (w.alloc (.cells #[.bool false, .slice none 0 0, .slice none 0 0] 34)) := ext_alloc (Below.refl _ _) _
  have hs0 : w.heap.size + 1 ≤ (w.alloc (.cells #[.bool false, .slice none 0 0, .slice none 0 0] 34)).heap.size := by simp
  generalize w.alloc (.cells #[.bool false, .slice none 0 0, .slice none 0 0] 34) = W0 at *
  have HF := Lib.hid (fun (w' : World) (h : Ext W0 w') => hF0.below h)
  have HE := Lib.hid x0
  have f0 : Ext W0 W0 := Below.refl _ _
  obtain ⟨r0, r1, r2, g0, g1, g2⟩ := hF0
  clear x0
  have HE3 := Lib.hid (fun (w' : World) (h : Ext W0 w') (o : Nat) (ho : 3 ≤ o) => (h.cell (p := ⟨w.heap.size, o, none⟩) (by show w.heap.size < W0.heap.size; omega)).trans (hE3 o ho))
  clear hE3
  go_wp2
  go_loopw [5, 6] (fun mv iv wr => ∃ (k : Nat) (us : List Value), k ≤ n ∧ iv = .int .i64 k ∧ Hid (MatO true W0.heap.size wr mv k C us us M) ∧ Ext W0 wr) (fun _ iv _ => n - (intOf iv).toNat)
  case atStart => exact ⟨0, [], Nat.zero_le _, rfl, Lib.hid (MatO.nil_ _ _ _ _ _), Below.refl _ _⟩
  case round =>
    obtain ⟨k, us, hk, rfl, HM, hx⟩ := hrel
    by_cases hkn : k < n
    · obtain ⟨ba, oa, A1, cp1, rfl, hba, hca, hrow⟩ := (HV.out _ (HE.out.trans hx)).at_ hkn
      have hi1 : (0 : Int) ≤ (k : Int) := by omega
      have hi2 : (k : Int) < (n : Int) := by omega
      have HROW := Lib.hid (fun (w' : World) (h : Ext wr w') => hrow.below h)
      have HFR := Lib.hid (HB.out k)
      have HS := Lib.hid (fun (w' : World) (h : Ext wr w') => (h.cell (p := ⟨ba, oa + k, none⟩) hba).trans hca)
      clear hrow hca
      go_upto_region 5 with (fail)
      refine wp_region_G (fun w' => Ext wr w') [8, 9] (by kernel_rfl) ?_
      have gS : Ext wr wr.drew := (Below.refl _ _).drew
      refine wpAnyG_take 0 (v := ?_) rfl (by kernel_rfl) (by kernel_rfl) (by kernel_rfl) (by kernel_rfl) (by rfl) (by kernel_rfl) (fun _ _ _ h => h) (by rfl) (fun w' hw' => ?_) gS ?_
      rotate_left
      focus (go_simp; (try with_reducible rfl); done)
      (try simp only [Act.put, List.getElem_toArray, List.getElem_cons_succ, List.getElem_cons_zero, List.setIfInBounds_toArray, List.set_cons_zero, List.set_cons_succ])
      refine wpAnyG_take 1 (v := ?_) rfl (by kernel_rfl) (by kernel_rfl) (by kernel_rfl) (by kernel_rfl) (by rfl) (by kernel_rfl) (fun _ _ _ h => h) (by rfl) (fun w' hw' => ?_) gS ?_
      rotate_left
      focus (go_simp; (try with_reducible rfl); done)
      (try simp only [Act.put, List.getElem_toArray, List.getElem_cons_succ, List.getElem_cons_zero, List.setIfInBounds_toArray, List.set_cons_zero, List.set_cons_succ])
      refine wpAnyG_take 2 (v := ?_) rfl (by kernel_rfl) (by kernel_rfl) (by kernel_rfl) (by kernel_rfl) (by rfl) (by kernel_rfl) (fun _ _ _ h => h) (by rfl) (fun w' hw' => ?_) gS ?_
      rotate_left
      focus (go_simp; (try with_reducible rfl); done)
      (try simp only [Act.put, List.getElem_toArray, List.getElem_cons_succ, List.getElem_cons_zero, List.setIfInBounds_toArray, List.set_cons_zero, List.set_cons_succ])
      refine wpAnyG_take 3 (v := ?_) rfl (by kernel_rfl) (by kernel_rfl) (by kernel_rfl) (by kernel_rfl) (by rfl) (by kernel_rfl) (fun _ _ _ h => h) (by rfl) (fun w' hw' => ?_) gS ?_
      rotate_left
      focus (go_simp; (try with_reducible rfl); done)
      (try simp only [Act.put, List.getElem_toArray, List.getElem_cons_succ, List.getElem_cons_zero, List.setIfInBounds_toArray, List.set_cons_zero, List.set_cons_succ])
      refine wpAnyG_take 4 (v := ?_) rfl (by kernel_rfl) (by kernel_rfl) (by kernel_rfl) (by kernel_rfl) (by rfl) (by kernel_rfl) (fun _ _ _ h => h) (by rfl) (fun w' hw' => ?_) gS ?_
      rotate_left
      focus (have hh := HS.out _ hw'; go_split_ands; go_simp; (try with_reducible rfl); done)
      (try simp only [Act.put, List.getElem_toArray, List.getElem_cons_succ, List.getElem_cons_zero, List.setIfInBounds_toArray, List.set_cons_zero, List.set_cons_succ])
      refine wpAnyG_one 5 (by kernel_rfl) rfl (by rfl) (fun K hK => ?_)
      go_simp
      go_at_call 57
      refine rone_n.mono ?_
      rintro _ s5 ⟨b5, A5, k5, c5, B5, l5, d5, rfl, h5, x5, _, _⟩
      have gS : Ext wr s5 := Ext.trans gS x5
      (try go_wp2_with fail)
      refine hK.out _ _ (fun _ => gS) ?_
      clear hK K
      (try simp only [Act.put, List.getElem_toArray, List.getElem_cons_succ, List.getElem_cons_zero, List.setIfInBounds_toArray, List.set_cons_zero, List.set_cons_succ])
      refine wpAnyG_one 6 (by kernel_rfl) rfl (by rfl) (fun K hK => ?_)
      go_simp
      go_at_call 68
      refine (rscaled_n (HROW.out _ gS) (FracV.any h5 fb_oneM (by omega)) (fun j hj => HFR.out j hkn hj) hL3 (by omega) (by omega) ⟨_, _, _, rfl⟩ ⟨_, _, _, rfl⟩).mono ?_
      rintro _ s6 ⟨A6, c6, rfl, h6, x6⟩
      have h6 := Lib.hid ((h6.lower gS.size).congr (g := M k) fun j _ => Rat.mul_one _)
      have gS : Ext wr s6 := Ext.trans gS x6
      have gR := gS
      (try go_wp2_with fail)
      refine hK.out _ _ (fun _ => gS) ?_
      clear hK K
      (try simp only [Act.put, List.getElem_toArray, List.getElem_cons_succ, List.getElem_cons_zero, List.setIfInBounds_toArray, List.set_cons_zero, List.set_cons_succ])
      refine wpAnyG_one 7 (by kernel_rfl) rfl (by rfl) (fun K hK => ?_)
      go_simp
      have gS : Ext wr (s6.alloc (.cells #[.slice A6 C c6] 39)) := ext_alloc gS _
      (try go_wp2_with fail)
      refine hK.out _ _ (fun _ => gS) ?_
      clear hK K
      (try simp only [Act.put, List.getElem_toArray, List.getElem_cons_succ, List.getElem_cons_zero, List.setIfInBounds_toArray, List.set_cons_zero, List.set_cons_succ])
      refine wpAnyG_one 8 (by kernel_rfl) rfl (by rfl) (fun K hK => ?_)
      refine wp_append_mine _ (.tmp 21) (.tmp 28) 22 (by rfl) W0.heap.size 39 j0 (.slice none 0 0) 1 24 Try.underlying22 hj hy0 hy1 hy2 rfl (by omega) _ _ _ (by rfl) (HM.out.ext gS).own ⟨s6.heap.size, 0, none⟩ 1 1 [.slice A6 C c6] (by rfl) rfl (cell_one s6 _ _) (by simp [Value.oneCell']) (by unfold maxLen; omega) (by omega) (by have := hx.size; have := gS.size; omega) ?_
      intro v8 w8 ho8 hg8 hw8
      have hM8 := Lib.hid (HM.out.push_row hx.size (ext_alloc gR _) (h6.out.ext (ext_alloc (Below.refl _ _) _)) (fun j hj => rfl) ho8 hg8 hw8)
      have hx8 : Ext W0 w8 := Below.grown (Ext.trans hx gS) hg8 (by have := hx.size; have := gS.size; omega) fun g hg => (HM.out.lt (.inl hg)).1
      clear ho8 hg8 hw8
      refine hK.out _ _ (fun h => absurd h (by decide)) ?_
      clear hK K
      (try simp only [Act.put, List.getElem_toArray, List.getElem_cons_succ, List.getElem_cons_zero, List.setIfInBounds_toArray, List.set_cons_zero, List.set_cons_succ])
      refine wpAnyG_one 9 (by kernel_rfl) rfl (by rfl) (fun K hK => ?_)
      (try simp only [List.getElem_toArray, List.getElem_cons_succ, List.getElem_cons_zero])
      go_simp
      refine hK.out _ _ (fun h => absurd h (by decide)) ?_
      clear hK K
      (try simp only [Act.put, List.getElem_toArray, List.getElem_cons_succ, List.getElem_cons_zero, List.setIfInBounds_toArray, List.set_cons_zero, List.set_cons_succ])
      refine wpAnyG_done (by kernel_rfl) ?_ _
      go_wp2
      go_roundw
      case rel => exact ⟨k + 1, _, by omega, by go_num, hM8, hx8⟩
      case measure => simp [intOf]; omega
    · obtain rfl : n = k := by omega
      have hkk : ¬ ((n : Int) < (n : Int)) := by omega
      obtain ⟨AV, cV, rfl, hcV1, hcV2⟩ := HM.out.mat.form
      obtain ⟨W1, hW1⟩ : ∃ W1, W1 = wr := ⟨_, rfl⟩
      subst hW1
      go_wp2_with fail
      refine rone_n.mono ?_
      rintro e w6 ⟨b6, A6, k6, c6, A6', k6', c6', rfl, h6, y6, n6, n6'⟩
      have hlo : W1.heap.size ≤ w6.heap.size := y6.size
      go_wp2
      have hG6 := FBox.new w6 (.bool b6) (.slice A6 k6 c6) (.slice A6' k6' c6') 34
      have Y6 : Ext W1 (w6.alloc (.cells #[.bool b6, .slice A6 k6 c6, .slice A6' k6' c6'] 34)) := ext_alloc y6 _
      have h6 := h6.below (ext_alloc (Below.refl _ _) (.cells #[.bool b6, .slice A6 k6 c6, .slice A6' k6' c6'] 34))
      have hsz6 : w6.heap.size < (w6.alloc (.cells #[.bool b6, .slice A6 k6 c6, .slice A6' k6' c6'] 34)).heap.size := by simp
      generalize w6.alloc (.cells #[.bool b6, .slice A6 k6 c6, .slice A6' k6' c6'] 34) = W6 at *
      generalize w6.heap.size = B6 at *
      have hW01 := hx.size
      have HM6 := Lib.hid (HM.out.more.box Y6 (by omega) (by omega))
      have HAP6 := Lib.hid (show ApR us B6 (.slice none 0 0) from fun u hu b hb => ⟨by have := (HM.out.lt (.inr ⟨u, hu, hb⟩)).2; omega, fun e => by cases e⟩)
      have HBL := Lib.hid (HM.out.blk.sub (us' := []) (fun u hu => by cases hu))
      have HA6 := Lib.hid (⟨b6, A6, k6, c6, A6', k6', c6', hG6, h6, ⟨n6, n6'⟩, Far.nil_ _, Far.nil_ _⟩ : FIx W1.heap.size W6 B6 1 (.slice none 0 0))
      have hX6 : Ext W0 W6 := hx.trans Y6
      have hB6 : W1.heap.size ≤ B6 := by omega
      have hS6 := Y6.size
      clear HM hG6 h6 n6 n6' Y6 y6 hx
      go_loopw [7, 9, 10] (fun lv kv iv wr => ∃ (c : Nat) (us : List Value), c ≤ C ∧ kv = .int .i64 ((rrefs M n c).leads.length : Int) ∧ iv = .int .i64 c ∧ Hid (MatO true W0.heap.size wr (.slice AV n cV) n C us (bxV B6 :: lv :: us) (rrefs M n c).m) ∧ Hid (wr.ownsRow W6.heap.size 3 1 lv (rrefs M n c).leads.length (i64l ((rrefs M n c).leads.map (fun l : Nat => (l : Int))))) ∧ Hid (FIx W1.heap.size wr B6 (rrefs M n c).det lv) ∧ Hid (ApR us B6 lv) ∧ Ext W0 wr ∧ W6.heap.size ≤ wr.heap.size) (fun _ _ iv _ => C - (intOf iv).toNat)
      case atStart => exact ⟨0, us, Nat.zero_le _, rfl, rfl, HM6, Lib.hid (World.ownsRow_nil _ _ _ _), HA6, HAP6, hX6, Nat.le_refl _⟩
      case round =>
        clear HM6 HA6 HAP6 hX6
        obtain ⟨c, us, hc, rfl, rfl, HM, HLV, HDT, HAP, hx, hs1⟩ := hrel
        obtain ⟨AL, cL, rfl, hcl1, hcl2⟩ : ∃ A c', u7 = .slice A (rrefs M n c).leads.length c' ∧ (rrefs M n c).leads.length ≤ c' ∧ c' ≤ 9223372036854775807 := by
          obtain ⟨A, c', h1, h2, h3, _⟩ := IntsV.of_own HLV.out
          rw [List.length_map] at h1 h2
          exact ⟨A, c', h1, h2, h3⟩
        by_cases hcC : c < C
        · have hn0 : 0 < n := Nat.pos_of_ne_zero fun h => by have := HZ.out h; omega
          have HSU := Lib.hid (rrefs_succ M n c)
          have HEC := Lib.hid (ech M n c)
          have HFB := Lib.hid (HBR.out c (by omega))
          have HFD := Lib.hid (HDB.out c (by omega))
          have HFD2 := Lib.hid (HDB.out (c + 1) (by omega))
          obtain ⟨s, hs⟩ : ∃ s, s = rrefs M n c := ⟨_, rfl⟩
          rw [← hs] at HM HLV HSU HEC HFB HFD HDT HAP hcl1 ⊢
          clear hs
          obtain ⟨kk, hkd⟩ : ∃ kk, kk = s.leads.length := ⟨_, rfl⟩
          rw [← hkd] at hcl1 HLV HM HDT HAP ⊢
          have HKK := Lib.hid hkd
          have hkn : kk ≤ n := by have := HEC.out.len; omega
          clear hkd
          obtain ⟨wo, hwo⟩ : ∃ wo, wo = wr := ⟨_, rfl⟩
          subst hwo
          have hc1' : (0 : Int) ≤ (c : Int) := by omega
          have hc2' : (c : Int) < (C : Int) := by omega
          go_wp2_with (go_at_call 52; (with_reducible refine (HCO.out _ (HE.out.trans hx)).mono ?_); rintro e w3 ⟨rfl, hw3⟩; obtain rfl : wo = w3 := hw3.symm)
          go_loopw [11] (fun iv wr => ∃ p : Nat, kk ≤ p ∧ p ≤ n ∧ iv = .int .i64 p ∧ (∀ i, kk ≤ i → i < p → s.m i c = 0) ∧ Ext wo wr) (fun iv _ => n - (intOf iv).toNat)
          case atStart => exact ⟨kk, Nat.le_refl _, hkn, rfl, fun i h1 h2 => by omega, Below.refl _ _⟩
          case round =>
            obtain ⟨p, hp1, hp2, rfl, hpz, hy⟩ := hrel
            by_cases hpn : p < n
            · obtain ⟨gv, cv, gp, cp, hve, hup, hcp, _, hgv, hgp, _, _, _⟩ := (HM.out.ext hy).row_at hpn (by omega)
              injection hve with hv1 hv2 hv3
              subst hv1 hv3
              obtain ⟨neg, A1, k1, c1, A2, k2, c2, e0, e1, e2, _, _, _, he, _, _⟩ := (HM.out.ext hy).ent_at hup hcC
              have HE1 := Lib.hid (fun (w' : World) (h : Ext wr w') => (he.below h).any (HFB.out p c hpn hcC) (by omega) (by omega))
              have hi1 : (0 : Int) ≤ (p : Int) := by omega
              have hi2 : (p : Int) < (n : Int) := by omega
              have HPZ := Lib.hid hpz
              clear he hpz
              obtain ⟨z, hz⟩ : ∃ z, sgnQ (s.m p c) = z := ⟨_, rfl⟩
              have HSG := Lib.hid (show Calls Try.prog 32 #[.agg #[.bool neg, .slice A1 k1 c1, .slice A2 k2 c2]] wr (fun e w'' => e = .returned (.int .i64 z) ∧ Ext wr w'') from by
                have h1 := rsign_f (HE1.out _ (Below.refl _ _)) (by omega)
                rwa [hz] at h1)
              by_cases hq : s.m p c = 0
              · have hz0' : z = 0 := by rw [← hz, hq]; rfl
                clear hz
                subst hz0'
                go_wp2_with (go_at_call 32; (with_reducible refine HSG.out.mono ?_); rintro e w7 ⟨rfl, x7⟩)
                go_roundw
                case rel => exact ⟨p + 1, by omega, by omega, by go_num, fun i h1 h2 => by
                  by_cases hip : i = p
                  · rw [hip]; exact hq
                  · exact HPZ.out i h1 (by omega), hy.trans x7⟩
                case measure => simp [intOf]; omega
              · have HQ := Lib.hid hq
                have HPV := Lib.hid (piv_eq (M := s.m) (n := n) (c := c) (k := kk) hp1 hp2 HPZ.out (.inr hq))
                have hz0' : ¬ (z = 0) := fun h => sgnQ_ne hq (hz.trans h)
                have hz1' : (z == 0) = false := by rw [beq_eq_false_iff_ne]; exact hz0'
                have hpe : ((p : Int) == (n : Int)) = false := by rw [beq_eq_false_iff_ne]; omega
                have hpe' : ¬ (p = n) := by omega
                have hkp : kk < n := by omega
                clear hz hq
                go_upto_if 62 with (go_at_call 32; (with_reducible refine HSG.out.mono ?_); rintro e w7 ⟨rfl, x7⟩; have y7 : Ext wo w7 := hy.trans x7)
                go_cut [] (fun wx => ∃ us' a', Hid (MatO true W0.heap.size wx (.slice (some ⟨gv, 0, none⟩) n cV) n C us' (bxV B6 :: .slice AL kk cL :: us') (swp s.m kk p)) ∧ Hid (wx.ownsRow W6.heap.size 3 1 (.slice AL kk cL) kk (i64l (s.leads.map (fun l : Nat => (l : Int))))) ∧ Hid (FIx W1.heap.size wx B6 a' (.slice AL kk cL)) ∧ Hid (a' = if p = kk then s.det else -s.det) ∧ Hid (ApR us' B6 (.slice AL kk cL)) ∧ Ext W0 wx ∧ W6.heap.size ≤ wx.heap.size)
                case first =>
                  by_cases hpc : p = kk
                  · have hpc1 : ((p : Int) != (kk : Int)) = false := by simp; omega
                    go_wp2
                    go_meet
                    exact ⟨us, s.det, Lib.hid (by rw [hpc, swp_same]; exact HM.out.ext y7), Lib.hid (HLV.out.kept (Ext.grown y7) (by cases AL <;> simp [Value.ownBlock])), Lib.hid (HDT.out.ext y7), Lib.hid (by rw [if_pos hpc]), HAP, hx.trans y7, Nat.le_trans hs1 y7.size⟩
                  · have hpc1 : ((p : Int) != (kk : Int)) = true := by rw [bne_iff_ne]; omega
                    go_upto_region 18 with (fail)
                    have hi3 : (0 : Int) ≤ (kk : Int) := by omega
                    have hi4 : (kk : Int) < (n : Int) := by omega
                    obtain ⟨gk, ck, huk, hck, hfk, _, hgk, hgvk, hbv, hbk⟩ := (HM.out.ext y7).row_of hkp (by omega)
                    obtain ⟨gp', cp', hup', hcp', hfp, _, _, _, _, _⟩ := (HM.out.ext y7).row_of hpn (by omega)
                    rw [hup] at hup'
                    cases hup'
                    have hgv7 : gv < w7.heap.size := by have := y7.size; omega
                    have HS := Lib.hid (fun (w' : World) (h : Ext w7 w') => (⟨(h.cell (p := ⟨gv, kk, none⟩) hgv7).trans hck, (h.cell (p := ⟨gv, p, none⟩) hgv7).trans hcp', (h.frozen (p := ⟨gv, kk, none⟩) hgv7).trans hfk, (h.frozen (p := ⟨gv, p, none⟩) hgv7).trans hfp⟩ : w'.cell? ⟨gv, kk, none⟩ = some (.slice (some ⟨gk, 0, none⟩) C ck) ∧ w'.cell? ⟨gv, p, none⟩ = some (.slice (some ⟨gp, 0, none⟩) C cp) ∧ w'.frozen? ⟨gv, kk, none⟩ = false ∧ w'.frozen? ⟨gv, p, none⟩ = false))
                    clear hck hcp hcp' hfk hfp e0 e1 e2
                    go_cut [] (fun wx => ∃ us', Hid (MatO true W0.heap.size wx (.slice (some ⟨gv, 0, none⟩) n cV) n C us' (bxV B6 :: .slice AL kk cL :: us') (swp s.m kk p)) ∧ Hid (wx.ownsRow W6.heap.size 3 1 (.slice AL kk cL) kk (i64l (s.leads.map (fun l : Nat => (l : Int))))) ∧ Hid (FIx W1.heap.size wx B6 s.det (.slice AL kk cL)) ∧ Hid (ApR us' B6 (.slice AL kk cL)) ∧ Ext W0 wx ∧ W6.heap.size ≤ wx.heap.size)
                    case first =>
                      refine wp_region_H (fun w' => Ext w7 w') [13, 14, 15] (by kernel_rfl) ?_
                      have gS : Ext w7 w7.drew := (Below.refl _ _).drew
                      refine wpAnyH_take 0 (v := ?_) rfl (by kernel_rfl) (by kernel_rfl) (by kernel_rfl) (by kernel_rfl) (by kernel_rfl) (fun _ _ _ h => h) (by rfl) (fun w' hw' => ?_) gS ?_
                      rotate_left
                      focus (go_simp; (try with_reducible rfl); done)
                      (try simp only [Act.put, List.getElem_toArray, List.getElem_cons_succ, List.getElem_cons_zero, List.setIfInBounds_toArray, List.set_cons_zero, List.set_cons_succ])
                      refine wpAnyH_take 1 (v := ?_) rfl (by kernel_rfl) (by kernel_rfl) (by kernel_rfl) (by kernel_rfl) (by kernel_rfl) (fun _ _ _ h => h) (by rfl) (fun w' hw' => ?_) gS ?_
                      rotate_left
                      focus (go_simp; (try with_reducible rfl); done)
                      (try simp only [Act.put, List.getElem_toArray, List.getElem_cons_succ, List.getElem_cons_zero, List.setIfInBounds_toArray, List.set_cons_zero, List.set_cons_succ])
                      refine wpAnyH_takeF 2 (v := ?_) rfl (by kernel_rfl) (by kernel_rfl) (by kernel_rfl) (by kernel_rfl) (fun _ _ _ h => h) (by rfl) (fun w' => ?_) ?_
                      rotate_left
                      focus (go_simp; (try with_reducible rfl); done)
                      (try simp only [Act.put, List.getElem_toArray, List.getElem_cons_succ, List.getElem_cons_zero, List.setIfInBounds_toArray, List.set_cons_zero, List.set_cons_succ])
                      refine wpAnyH_takeF 3 (v := ?_) rfl (by kernel_rfl) (by kernel_rfl) (by kernel_rfl) (by kernel_rfl) (fun _ _ _ h => h) (by rfl) (fun w' => ?_) ?_
                      rotate_left
                      focus (go_simp; (try with_reducible rfl); done)
                      (try simp only [Act.put, List.getElem_toArray, List.getElem_cons_succ, List.getElem_cons_zero, List.setIfInBounds_toArray, List.set_cons_zero, List.set_cons_succ])
                      refine wpAnyH_take 4 (v := ?_) rfl (by kernel_rfl) (by kernel_rfl) (by kernel_rfl) (by kernel_rfl) (by kernel_rfl) (fun _ _ _ h => h) (by rfl) (fun w' hw' => ?_) gS ?_
                      rotate_left
                      focus (go_simp; (try with_reducible rfl); done)
                      (try simp only [Act.put, List.getElem_toArray, List.getElem_cons_succ, List.getElem_cons_zero, List.setIfInBounds_toArray, List.set_cons_zero, List.set_cons_succ])
                      refine wpAnyH_take 5 (v := ?_) rfl (by kernel_rfl) (by kernel_rfl) (by kernel_rfl) (by kernel_rfl) (by kernel_rfl) (fun _ _ _ h => h) (by rfl) (fun w' hw' => ?_) gS ?_
                      rotate_left
                      focus (go_simp; (try with_reducible rfl); done)
                      (try simp only [Act.put, List.getElem_toArray, List.getElem_cons_succ, List.getElem_cons_zero, List.setIfInBounds_toArray, List.set_cons_zero, List.set_cons_succ])
                      refine wpAnyH_take 6 (v := ?_) rfl (by kernel_rfl) (by kernel_rfl) (by kernel_rfl) (by kernel_rfl) (by kernel_rfl) (fun _ _ _ h => h) (by rfl) (fun w' hw' => ?_) gS ?_
                      rotate_left
                      focus (go_simp; (try with_reducible rfl); done)
                      (try simp only [Act.put, List.getElem_toArray, List.getElem_cons_succ, List.getElem_cons_zero, List.setIfInBounds_toArray, List.set_cons_zero, List.set_cons_succ])
                      refine wpAnyH_take 7 (v := ?_) rfl (by kernel_rfl) (by kernel_rfl) (by kernel_rfl) (by kernel_rfl) (by kernel_rfl) (fun _ _ _ h => h) (by rfl) (fun w' hw' => ?_) gS ?_
                      rotate_left
                      focus (have hh := HS.out _ hw'; go_split_ands; go_simp; (try with_reducible rfl); done)
                      (try simp only [Act.put, List.getElem_toArray, List.getElem_cons_succ, List.getElem_cons_zero, List.setIfInBounds_toArray, List.set_cons_zero, List.set_cons_succ])
                      refine wpAnyH_take 8 (v := ?_) rfl (by kernel_rfl) (by kernel_rfl) (by kernel_rfl) (by kernel_rfl) (by kernel_rfl) (fun _ _ _ h => h) (by rfl) (fun w' hw' => ?_) gS ?_
                      rotate_left
                      focus (go_simp; (try with_reducible rfl); done)
                      (try simp only [Act.put, List.getElem_toArray, List.getElem_cons_succ, List.getElem_cons_zero, List.setIfInBounds_toArray, List.set_cons_zero, List.set_cons_succ])
                      refine wpAnyH_take 9 (v := ?_) rfl (by kernel_rfl) (by kernel_rfl) (by kernel_rfl) (by kernel_rfl) (by kernel_rfl) (fun _ _ _ h => h) (by rfl) (fun w' hw' => ?_) gS ?_
                      rotate_left
                      focus (go_simp; (try with_reducible rfl); done)
                      (try simp only [Act.put, List.getElem_toArray, List.getElem_cons_succ, List.getElem_cons_zero, List.setIfInBounds_toArray, List.set_cons_zero, List.set_cons_succ])
                      refine wpAnyH_take 10 (v := ?_) rfl (by kernel_rfl) (by kernel_rfl) (by kernel_rfl) (by kernel_rfl) (by kernel_rfl) (fun _ _ _ h => h) (by rfl) (fun w' hw' => ?_) gS ?_
                      rotate_left
                      focus (go_simp; (try with_reducible rfl); done)
                      (try simp only [Act.put, List.getElem_toArray, List.getElem_cons_succ, List.getElem_cons_zero, List.setIfInBounds_toArray, List.set_cons_zero, List.set_cons_succ])
                      refine wpAnyH_take 11 (v := ?_) rfl (by kernel_rfl) (by kernel_rfl) (by kernel_rfl) (by kernel_rfl) (by kernel_rfl) (fun _ _ _ h => h) (by rfl) (fun w' hw' => ?_) gS ?_
                      rotate_left
                      focus (have hh := HS.out _ hw'; go_split_ands; go_simp; (try with_reducible rfl); done)
                      (try simp only [Act.put, List.getElem_toArray, List.getElem_cons_succ, List.getElem_cons_zero, List.setIfInBounds_toArray, List.set_cons_zero, List.set_cons_succ])
                      refine wpAnyH_take 12 (v := ?_) rfl (by kernel_rfl) (by kernel_rfl) (by kernel_rfl) (by kernel_rfl) (by kernel_rfl) (fun _ _ _ h => h) (by rfl) (fun w' hw' => ?_) gS ?_
                      rotate_left
                      focus (go_simp; (try with_reducible rfl); done)
                      (try simp only [Act.put, List.getElem_toArray, List.getElem_cons_succ, List.getElem_cons_zero, List.setIfInBounds_toArray, List.set_cons_zero, List.set_cons_succ])
                      obtain ⟨t0, t1, t2, t3⟩ := HS.out _ (Below.refl _ _)
                      obtain ⟨um, m0, m1⟩ := (HM.out.ext y7).mid (k := p) hkp (.slice (some ⟨gk, 0, none⟩) C ck)
                      refine wpAnyH_one 13 (by kernel_rfl) rfl (by rfl) (fun K hK => ?_)
                      (try simp only [List.getElem_toArray, List.getElem_cons_succ, List.getElem_cons_zero])
                      go_simp
                      refine hK.out _ _ (fun h => absurd h (by decide)) ?_
                      clear hK K
                      (try simp only [Act.put, List.getElem_toArray, List.getElem_cons_succ, List.getElem_cons_zero, List.setIfInBounds_toArray, List.set_cons_zero, List.set_cons_succ])
                      refine wpAnyH_one 14 (by kernel_rfl) rfl (by rfl) (fun K hK => ?_)
                      (try simp only [List.getElem_toArray, List.getElem_cons_succ, List.getElem_cons_zero])
                      go_simp
                      refine hK.out _ _ (fun h => absurd h (by decide)) ?_
                      clear hK K
                      (try simp only [Act.put, List.getElem_toArray, List.getElem_cons_succ, List.getElem_cons_zero, List.setIfInBounds_toArray, List.set_cons_zero, List.set_cons_succ])
                      refine wpAnyH_one 15 (by kernel_rfl) rfl (by rfl) (fun K hK => ?_)
                      (try simp only [List.getElem_toArray, List.getElem_cons_succ, List.getElem_cons_zero])
                      go_simp
                      refine hK.out _ _ (fun h => absurd h (by decide)) ?_
                      clear hK K
                      (try simp only [Act.put, List.getElem_toArray, List.getElem_cons_succ, List.getElem_cons_zero, List.setIfInBounds_toArray, List.set_cons_zero, List.set_cons_succ])
                      refine wpAnyH_done (by kernel_rfl) ?_ _
                      go_wp2
                      go_meet
                      have h0 := (HM.out.ext y7).swap rfl hup huk
                      rw [swp_comm] at h0
                      have hfr : Fr (.slice (some ⟨gv, 0, none⟩) n cV) [] wo _ := ((Fr.of_ext y7).swap rfl p kk (.slice (some ⟨gk, 0, none⟩) C ck) (.slice (some ⟨gp, 0, none⟩) C cp)).trans (Fr.of_ext (ext_drew (Below.refl _ _)))
                      exact ⟨_, Lib.hid ((h0.narrow (fun u hu => List.mem_cons_of_mem _ (List.mem_cons_of_mem _ hu)) (fun u hu => by
                        rcases List.mem_cons.1 hu with rfl | hu
                        · exact List.mem_cons_self
                        · rcases List.mem_cons.1 hu with rfl | hu
                          · exact List.mem_cons_of_mem _ List.mem_cons_self
                          · exact List.mem_cons_of_mem _ (List.mem_cons_of_mem _ (mem_swap hup huk hu)))).ext (ext_drew (Below.refl _ _))), Lib.hid (ownsRow_fr HLV.out hfr fun b hb => HBL.out.not (Nat.le_trans hS6 (HLV.out.lt b hb).1)), Lib.hid (HDT.out.fr HBL.out hB6 hfr), Lib.hid (HAP.out.sub fun u hu => mem_swap hup huk hu), ext_drew (swap_ext (hx.trans y7) hbv _ _), by have := y7.size; simp; omega⟩
                    case rest =>
                      clear HS hup huk HE1 hz1' hz0' x7 y7 hy HSG HM HDT HLV HAP
                      obtain ⟨us', HM', HLV', HDT', HAP', hx', hs'⟩ := hcut
                      obtain ⟨cc, MA, mk, ml, MA', mk', ml', hM, vM, _, _, _⟩ := HDT'.out
                      have hMl := hM.lt
                      have HMb := Lib.hid (fun (w' : World) (h : Ext wc w') => hM.below h)
                      obtain ⟨m0, m1, m2, gm0, gm1, gm2⟩ := hM
                      have HMV := Lib.hid (FracV.any vM HFD.out (by omega))
                      clear vM HDT'
                      go_wp2_with (go_at_call 35; (with_reducible refine (rneg_f HMV.out (by omega)).mono ?_); rintro _ s8 ⟨b8, A8, k8, c8, B8, l8, d8, rfl, h8, z8, n8, m8⟩; obtain ⟨m0, m1, m2, gm0, gm1, gm2⟩ := HMb.out _ z8)
                      go_meet
                      have hlvs : ∀ g, (Value.slice AL kk cL).ownBlock = some g → g < wc.heap.size := fun g hg => (HLV'.out.lt g hg).2
                      have hLB : (Value.slice AL kk cL).ownBlock ≠ some B6 := fun e => by have := (HLV'.out.lt B6 e).1; omega
                      exact ⟨us', -s.det, Lib.hid ((HM'.out.ext z8).boxW2 (fun u hu => List.mem_cons_of_mem _ hu) ⟨(HBL.out.not hB6).1, HAP'.out.box⟩ (by have := z8.size; omega) _ _ _), Lib.hid ((HLV'.out.kept (Ext.grown z8) (by cases AL <;> simp [Value.ownBlock])).kept (box_grown _ _ _ _ _) (.inr hLB)), Lib.hid (FIx.put (HMb.out _ z8) h8 n8 m8 hMl (by omega) hlvs), Lib.hid (by rw [if_neg hpc]), HAP', ext_put (hx'.trans z8) (by omega) _ _ _, by have := z8.size; simp; omega⟩
                case rest =>
                  clear hup HE1 hz1' hz0' x7 y7 hy HSG HM HDT HLV HAP e0 e1 e2 hcp
                  obtain ⟨us', a', HM', HLV', HDT', HA', HAP', hx', hs'⟩ := hcut
                  obtain ⟨S, hS⟩ : ∃ S, S = swp s.m kk p := ⟨_, rfl⟩
                  have HSD := Lib.hid hS
                  have HFS := Lib.hid (show FBm S n C 40353607000 from by rw [hS]; exact fbm_swp HFB.out hkp hpn)
                  have hqs : S kk c ≠ 0 := by rw [hS, show swp s.m kk p kk = s.m p from by rw [swp_at, if_pos rfl]]; exact HQ.out
                  have HFa := Lib.hid (show FB a' 40353607003 from by
                    rw [HA'.out]
                    split
                    · exact HFD.out
                    · exact FB.neg HFD.out)
                  have HRD := Lib.hid (rd_det HSU.out HKK.out HPV.out hpn HA'.out hS)
                  rw [← hS] at HM'
                  obtain ⟨q, hqd⟩ : ∃ q, q = S kk c := ⟨_, rfl⟩
                  have HQD := Lib.hid hqd
                  rw [← hqd] at hqs HRD
                  have HQS := Lib.hid hqs
                  have HFq := Lib.hid (show FB q 40353607000 from by rw [hqd]; exact HFS.out kk c hkp hcC)
                  have HFQI := Lib.hid (FB.div fb_oneM HFq.out (by omega) (by omega))
                  clear hS HFD HQ HA' hqd hqs
                  obtain ⟨cc, MA, mk, ml, MA', mk', ml', hM, vM, _, _, _⟩ := HDT'.out
                  have hMl := hM.lt
                  have HMb := Lib.hid (fun (w' : World) (h : Ext wc w') => hM.below h)
                  have HMV := Lib.hid (FracV.any vM HFa.out (by omega))
                  obtain ⟨gk, ck, huk, hck, hfk, hgvl, hgkl, hgvk, hbv, hbk⟩ := HM'.out.row_of hkp (by omega)
                  obtain ⟨nd, A1, k1, c1, A2, k2, c2, e0, e1, e2, _, _, _, he, _, _⟩ := HM'.out.ent_at huk hcC
                  rw [← HQD.out] at he
                  have HEC2 := Lib.hid (fun (w' : World) (h : Ext wc w') => (he.below h).any HFq.out (by omega) (by omega))
                  have HUK := Lib.hid huk
                  have HS := Lib.hid (fun (w' : World) (h : Ext wc w') => (⟨(h.cell (p := ⟨gv, kk, none⟩) hgvl).trans hck, ⟨(h.cell (p := ⟨gk, c * 3, none⟩) hgkl).trans e0, (h.cell (p := ⟨gk, c * 3 + 1, none⟩) hgkl).trans e1, (h.cell (p := ⟨gk, c * 3 + 2, none⟩) hgkl).trans e2⟩, (HMb.out w' h).1, (HMb.out w' h).2.1, (HMb.out w' h).2.2.1⟩ : w'.cell? ⟨gv, kk, none⟩ = some (.slice (some ⟨gk, 0, none⟩) C ck) ∧ (w'.cell? ⟨gk, c * 3, none⟩ = some (.bool nd) ∧ w'.cell? ⟨gk, c * 3 + 1, none⟩ = some (.slice A1 k1 c1) ∧ w'.cell? ⟨gk, c * 3 + 2, none⟩ = some (.slice A2 k2 c2)) ∧ w'.cell? ⟨B6, 0, none⟩ = some (.bool cc) ∧ w'.cell? ⟨B6, 1, none⟩ = some (.slice MA mk ml) ∧ w'.cell? ⟨B6, 2, none⟩ = some (.slice MA' mk' ml')))
                  have hlvs : ∀ g, (Value.slice AL kk cL).ownBlock = some g → g < wc.heap.size := fun g hg => (HLV'.out.lt g hg).2
                  have hLB : (Value.slice AL kk cL).ownBlock ≠ some B6 := fun e => by have := (HLV'.out.lt B6 e).1; omega
                  clear he vM hM e0 e1 e2 hck hfk huk HDT'
                  go_upto_region 20 with (fail)
                  refine wp_region_G (fun w' => Ext wc w') [9] (by kernel_rfl) ?_
                  have gS : Ext wc wc.drew := (Below.refl _ _).drew
                  refine wpAnyG_take 0 (v := ?_) rfl (by kernel_rfl) (by kernel_rfl) (by kernel_rfl) (by kernel_rfl) (by rfl) (by kernel_rfl) (fun _ _ _ h => h) (by rfl) (fun w' hw' => ?_) gS ?_
                  rotate_left
                  focus (have hh := HS.out _ hw'; go_split_ands; go_simp; (try with_reducible rfl); done)
                  (try simp only [Act.put, List.getElem_toArray, List.getElem_cons_succ, List.getElem_cons_zero, List.setIfInBounds_toArray, List.set_cons_zero, List.set_cons_succ])
                  refine wpAnyG_take 1 (v := ?_) rfl (by kernel_rfl) (by kernel_rfl) (by kernel_rfl) (by kernel_rfl) (by rfl) (by kernel_rfl) (fun _ _ _ h => h) (by rfl) (fun w' hw' => ?_) gS ?_
                  rotate_left
                  focus (go_simp; (try with_reducible rfl); done)
                  (try simp only [Act.put, List.getElem_toArray, List.getElem_cons_succ, List.getElem_cons_zero, List.setIfInBounds_toArray, List.set_cons_zero, List.set_cons_succ])
                  refine wpAnyG_take 2 (v := ?_) rfl (by kernel_rfl) (by kernel_rfl) (by kernel_rfl) (by kernel_rfl) (by rfl) (by kernel_rfl) (fun _ _ _ h => h) (by rfl) (fun w' hw' => ?_) gS ?_
                  rotate_left
                  focus (go_simp; (try with_reducible rfl); done)
                  (try simp only [Act.put, List.getElem_toArray, List.getElem_cons_succ, List.getElem_cons_zero, List.setIfInBounds_toArray, List.set_cons_zero, List.set_cons_succ])
                  refine wpAnyG_take 3 (v := ?_) rfl (by kernel_rfl) (by kernel_rfl) (by kernel_rfl) (by kernel_rfl) (by rfl) (by kernel_rfl) (fun _ _ _ h => h) (by rfl) (fun w' hw' => ?_) gS ?_
                  rotate_left
                  focus (go_simp; (try with_reducible rfl); done)
                  (try simp only [Act.put, List.getElem_toArray, List.getElem_cons_succ, List.getElem_cons_zero, List.setIfInBounds_toArray, List.set_cons_zero, List.set_cons_succ])
                  refine wpAnyG_take 4 (v := ?_) rfl (by kernel_rfl) (by kernel_rfl) (by kernel_rfl) (by kernel_rfl) (by rfl) (by kernel_rfl) (fun _ _ _ h => h) (by rfl) (fun w' hw' => ?_) gS ?_
                  rotate_left
                  focus (have hh := HS.out _ hw'; go_split_ands; go_simp; (try with_reducible rfl); done)
                  (try simp only [Act.put, List.getElem_toArray, List.getElem_cons_succ, List.getElem_cons_zero, List.setIfInBounds_toArray, List.set_cons_zero, List.set_cons_succ])
                  refine wpAnyG_take 5 (v := ?_) rfl (by kernel_rfl) (by kernel_rfl) (by kernel_rfl) (by kernel_rfl) (by rfl) (by kernel_rfl) (fun _ _ _ h => h) (by rfl) (fun w' hw' => ?_) gS ?_
                  rotate_left
                  focus (go_simp; (try with_reducible rfl); done)
                  (try simp only [Act.put, List.getElem_toArray, List.getElem_cons_succ, List.getElem_cons_zero, List.setIfInBounds_toArray, List.set_cons_zero, List.set_cons_succ])
                  refine wpAnyG_take 6 (v := ?_) rfl (by kernel_rfl) (by kernel_rfl) (by kernel_rfl) (by kernel_rfl) (by rfl) (by kernel_rfl) (fun _ _ _ h => h) (by rfl) (fun w' hw' => ?_) gS ?_
                  rotate_left
                  focus (go_simp; (try with_reducible rfl); done)
                  (try simp only [Act.put, List.getElem_toArray, List.getElem_cons_succ, List.getElem_cons_zero, List.setIfInBounds_toArray, List.set_cons_zero, List.set_cons_succ])
                  refine wpAnyG_take 7 (v := ?_) rfl (by kernel_rfl) (by kernel_rfl) (by kernel_rfl) (by kernel_rfl) (by rfl) (by kernel_rfl) (fun _ _ _ h => h) (by rfl) (fun w' hw' => ?_) gS ?_
                  rotate_left
                  focus (have hh := HS.out _ hw'; go_split_ands; go_simp; (try with_reducible rfl); done)
                  (try simp only [Act.put, List.getElem_toArray, List.getElem_cons_succ, List.getElem_cons_zero, List.setIfInBounds_toArray, List.set_cons_zero, List.set_cons_succ])
                  refine wpAnyG_one 8 (by kernel_rfl) rfl (by rfl) (fun K hK => ?_)
                  go_simp
                  go_at_call 63
                  refine (rmul_f (HMV.out.below gS) (HEC2.out _ gS) (by omega)).mono ?_
                  rintro _ s7 ⟨b7, A7, k7, c7, B7, l7, d7, rfl, h7, z7, n7, m7⟩
                  have hgs := gS.size
                  have gS : Ext wc s7 := Ext.trans gS z7
                  have gR := gS
                  (try go_wp2_with fail)
                  refine hK.out _ _ (fun _ => gS) ?_
                  clear hK K
                  (try simp only [Act.put, List.getElem_toArray, List.getElem_cons_succ, List.getElem_cons_zero, List.setIfInBounds_toArray, List.set_cons_zero, List.set_cons_succ])
                  obtain ⟨m0, m1, m2, gm0, gm1, gm2⟩ := HMb.out _ gS
                  refine wpAnyG_one 9 (by kernel_rfl) rfl (by rfl) (fun K hK => ?_)
                  (try simp only [List.getElem_toArray, List.getElem_cons_succ, List.getElem_cons_zero])
                  go_simp
                  refine hK.out _ _ (fun h => absurd h (by decide)) ?_
                  clear hK K
                  (try simp only [Act.put, List.getElem_toArray, List.getElem_cons_succ, List.getElem_cons_zero, List.setIfInBounds_toArray, List.set_cons_zero, List.set_cons_succ])
                  refine wpAnyG_done (by kernel_rfl) ?_ _
                  have HM4 := Lib.hid ((HM'.out.ext gR).boxW2 (fun u hu => List.mem_cons_of_mem _ hu) ⟨(HBL.out.not hB6).1, HAP'.out.box⟩ (by have := gR.size; omega) (.bool b7) (.slice A7 k7 c7) (.slice B7 l7 d7))
                  have HLV4 := Lib.hid ((HLV'.out.kept (Ext.grown gR) (by cases AL <;> simp [Value.ownBlock])).kept (box_grown s7 B6 (.bool b7) (.slice A7 k7 c7) (.slice B7 l7 d7)) (.inr hLB))
                  have HD4 := Lib.hid (FIx.put (lv := .slice AL kk cL) (B := W1.heap.size) (HMb.out _ gR) h7 n7 m7 (by omega) (by omega) (fun g hg => by have := hlvs g hg; omega))
                  have hx4 := ext_put (hx'.trans gR) (b := B6) (by omega) (.bool b7) (.slice A7 k7 c7) (.slice B7 l7 d7)
                  have hs4 : W6.heap.size ≤ (((s7.setCell ⟨B6, 0, none⟩ (.bool b7)).setCell ⟨B6, 1, none⟩ (.slice A7 k7 c7)).setCell ⟨B6, 2, none⟩ (.slice B7 l7 d7)).heap.size := by have := gR.size; simp; omega
                  generalize ((s7.setCell ⟨B6, 0, none⟩ (.bool b7)).setCell ⟨B6, 1, none⟩ (.slice A7 k7 c7)).setCell ⟨B6, 2, none⟩ (.slice B7 l7 d7) = W4 at *
                  clear HM' HLV' HMb HMV HEC2 HS m0 m1 m2 gm0 gm1 gm2 h7 z7 n7 m7 hx' hs' gS gR hgs hgvl hgkl hMl hlvs
                  obtain ⟨gk0, ck0, huk0, hck, hfk, hgvl, hgkl, _, _, _⟩ := HM4.out.row_of hkp (by omega)
                  rw [HUK.out] at huk0
                  injection huk0 with huk0
                  injection huk0 with h1 h2 h3
                  injection h1 with h1
                  injection h1 with h1
                  subst h1 h3
                  obtain ⟨nd, A1, k1, c1, A2, k2, c2, e0, e1, e2, _, _, _, he, _, _⟩ := HM4.out.ent_at HUK.out hcC
                  rw [← HQD.out] at he
                  have HEC2 := Lib.hid (fun (w' : World) (h : Ext W4 w') => (he.below h).any HFq.out (by omega) (by omega))
                  have HS := Lib.hid (fun (w' : World) (h : Ext W4 w') => (⟨(h.cell (p := ⟨gv, kk, none⟩) hgvl).trans hck, (h.cell (p := ⟨gk, c * 3, none⟩) hgkl).trans e0, (h.cell (p := ⟨gk, c * 3 + 1, none⟩) hgkl).trans e1, (h.cell (p := ⟨gk, c * 3 + 2, none⟩) hgkl).trans e2⟩ : w'.cell? ⟨gv, kk, none⟩ = some (.slice (some ⟨gk, 0, none⟩) C ck) ∧ w'.cell? ⟨gk, c * 3, none⟩ = some (.bool nd) ∧ w'.cell? ⟨gk, c * 3 + 1, none⟩ = some (.slice A1 k1 c1) ∧ w'.cell? ⟨gk, c * 3 + 2, none⟩ = some (.slice A2 k2 c2)))
                  clear he e0 e1 e2
                  go_upto_region 21 with (fail)
                  go_cut [12] (fun pv wx => ∃ BY, pv = .pointer (some ⟨BY, 0, none⟩) ∧ W1.heap.size ≤ BY ∧ Hid (FId W1.heap.size wx BY (1 / q)) ∧ Ext W4 wx)
                  case first =>
                    refine wp_region_H (fun w' => Ext W4 w') [13, 14] (by kernel_rfl) ?_
                    have gS : Ext W4 W4.drew := (Below.refl _ _).drew
                    refine wpAnyH_take 1 (v := ?_) rfl (by kernel_rfl) (by kernel_rfl) (by kernel_rfl) (by kernel_rfl) (by kernel_rfl) (fun _ _ _ h => h) (by rfl) (fun w' hw' => ?_) gS ?_
                    rotate_left
                    focus (go_simp; (try with_reducible rfl); done)
                    (try simp only [Act.put, List.getElem_toArray, List.getElem_cons_succ, List.getElem_cons_zero, List.setIfInBounds_toArray, List.set_cons_zero, List.set_cons_succ])
                    refine wpAnyH_take 2 (v := ?_) rfl (by kernel_rfl) (by kernel_rfl) (by kernel_rfl) (by kernel_rfl) (by kernel_rfl) (fun _ _ _ h => h) (by rfl) (fun w' hw' => ?_) gS ?_
                    rotate_left
                    focus (go_simp; (try with_reducible rfl); done)
                    (try simp only [Act.put, List.getElem_toArray, List.getElem_cons_succ, List.getElem_cons_zero, List.setIfInBounds_toArray, List.set_cons_zero, List.set_cons_succ])
                    refine wpAnyH_take 3 (v := ?_) rfl (by kernel_rfl) (by kernel_rfl) (by kernel_rfl) (by kernel_rfl) (by kernel_rfl) (fun _ _ _ h => h) (by rfl) (fun w' hw' => ?_) gS ?_
                    rotate_left
                    focus (go_simp; (try with_reducible rfl); done)
                    (try simp only [Act.put, List.getElem_toArray, List.getElem_cons_succ, List.getElem_cons_zero, List.setIfInBounds_toArray, List.set_cons_zero, List.set_cons_succ])
                    refine wpAnyH_take 4 (v := ?_) rfl (by kernel_rfl) (by kernel_rfl) (by kernel_rfl) (by kernel_rfl) (by kernel_rfl) (fun _ _ _ h => h) (by rfl) (fun w' hw' => ?_) gS ?_
                    rotate_left
                    focus (have hh := HS.out _ hw'; go_split_ands; go_simp; (try with_reducible rfl); done)
                    (try simp only [Act.put, List.getElem_toArray, List.getElem_cons_succ, List.getElem_cons_zero, List.setIfInBounds_toArray, List.set_cons_zero, List.set_cons_succ])
                    refine wpAnyH_take 5 (v := ?_) rfl (by kernel_rfl) (by kernel_rfl) (by kernel_rfl) (by kernel_rfl) (by kernel_rfl) (fun _ _ _ h => h) (by rfl) (fun w' hw' => ?_) gS ?_
                    rotate_left
                    focus (go_simp; (try with_reducible rfl); done)
                    (try simp only [Act.put, List.getElem_toArray, List.getElem_cons_succ, List.getElem_cons_zero, List.setIfInBounds_toArray, List.set_cons_zero, List.set_cons_succ])
                    refine wpAnyH_take 6 (v := ?_) rfl (by kernel_rfl) (by kernel_rfl) (by kernel_rfl) (by kernel_rfl) (by kernel_rfl) (fun _ _ _ h => h) (by rfl) (fun w' hw' => ?_) gS ?_
                    rotate_left
                    focus (go_simp; (try with_reducible rfl); done)
                    (try simp only [Act.put, List.getElem_toArray, List.getElem_cons_succ, List.getElem_cons_zero, List.setIfInBounds_toArray, List.set_cons_zero, List.set_cons_succ])
                    refine wpAnyH_take 7 (v := ?_) rfl (by kernel_rfl) (by kernel_rfl) (by kernel_rfl) (by kernel_rfl) (by kernel_rfl) (fun _ _ _ h => h) (by rfl) (fun w' hw' => ?_) gS ?_
                    rotate_left
                    focus (have hh := HS.out _ hw'; go_split_ands; go_simp; (try with_reducible rfl); done)
                    (try simp only [Act.put, List.getElem_toArray, List.getElem_cons_succ, List.getElem_cons_zero, List.setIfInBounds_toArray, List.set_cons_zero, List.set_cons_succ])
                    refine wpAnyH_two 0 12 (by kernel_rfl) rfl rfl (by rfl) (by rfl) (fun K hK => ?_) (fun K hK => ?_)
                    · (try simp only [List.getElem_toArray, List.getElem_cons_succ, List.getElem_cons_zero])
                      go_simp
                      go_at_call 57
                      refine rone_n.mono ?_
                      rintro _ s1 ⟨b1, A8, k8, c8, B8, l8, d8, rfl, h1, z1, _, _⟩
                      have gS : Ext W4 s1 := Ext.trans gS z1
                      (try go_wp2_with fail)
                      refine hK.out _ _ (fun _ => gS) ?_
                      clear hK K
                      (try simp only [Act.put, List.getElem_toArray, List.getElem_cons_succ, List.getElem_cons_zero, List.setIfInBounds_toArray, List.set_cons_zero, List.set_cons_succ])
                      refine wpAnyH_two 8 12 (by kernel_rfl) rfl rfl (by rfl) (by rfl) (fun K hK => ?_) (fun K hK => ?_)
                      · (try simp only [List.getElem_toArray, List.getElem_cons_succ, List.getElem_cons_zero])
                        go_simp
                        go_at_call 69
                        refine (rdiv_ok (FracV.any (h1.below (Below.refl _ _)) fb_oneM (by omega)) (HEC2.out _ gS) HFq.out (by omega) HQS.out).mono ?_
                        rintro _ s2 ⟨b7, A7, k7, c7, B7, l7, d7, rfl, h7, x7, n7, m7⟩
                        have hgs := gS.size
                        have gS : Ext W4 s2 := Ext.trans gS x7
                        have gR := gS
                        (try go_wp2_with fail)
                        refine hK.out _ _ (fun _ => gS) ?_
                        clear hK K
                        (try simp only [Act.put, List.getElem_toArray, List.getElem_cons_succ, List.getElem_cons_zero, List.setIfInBounds_toArray, List.set_cons_zero, List.set_cons_succ])
                        refine wpAnyH_take 9 (v := ?_) rfl (by kernel_rfl) (by kernel_rfl) (by kernel_rfl) (by kernel_rfl) (by kernel_rfl) (fun _ _ _ h => h) (by rfl) (fun w' hw' => ?_) gS ?_
                        rotate_left
                        focus (go_simp; (try with_reducible rfl); done)
                        (try simp only [Act.put, List.getElem_toArray, List.getElem_cons_succ, List.getElem_cons_zero, List.setIfInBounds_toArray, List.set_cons_zero, List.set_cons_succ])
                        refine wpAnyH_take 10 (v := ?_) rfl (by kernel_rfl) (by kernel_rfl) (by kernel_rfl) (by kernel_rfl) (by kernel_rfl) (fun _ _ _ h => h) (by rfl) (fun w' hw' => ?_) gS ?_
                        rotate_left
                        focus (go_simp; (try with_reducible rfl); done)
                        (try simp only [Act.put, List.getElem_toArray, List.getElem_cons_succ, List.getElem_cons_zero, List.setIfInBounds_toArray, List.set_cons_zero, List.set_cons_succ])
                        refine wpAnyH_takeF 11 (v := ?_) rfl (by kernel_rfl) (by kernel_rfl) (by kernel_rfl) (by kernel_rfl) (fun _ _ _ h => h) (by rfl) (fun w' => ?_) ?_
                        rotate_left
                        focus (go_simp; (try with_reducible rfl); done)
                        (try simp only [Act.put, List.getElem_toArray, List.getElem_cons_succ, List.getElem_cons_zero, List.setIfInBounds_toArray, List.set_cons_zero, List.set_cons_succ])
                        refine wpAnyH_one 12 (by kernel_rfl) rfl (by rfl) (fun K hK => ?_)
                        (try simp only [List.getElem_toArray, List.getElem_cons_succ, List.getElem_cons_zero])
                        go_simp
                        have hB := FBox.new s2 (.bool false) (.slice none 0 0) (.slice none 0 0) 34
                        have x9 : Ext s2 (s2.alloc (.cells #[.bool false, .slice none 0 0, .slice none 0 0] 34)) := ext_alloc (Below.refl _ _) _
                        generalize s2.alloc (.cells #[.bool false, .slice none 0 0, .slice none 0 0] 34) = s9 at *
                        have gS : Ext W4 s9 := gS.trans x9
                        have hlB := hB.lt
                        (try go_wp2_with fail)
                        refine hK.out _ _ (fun _ => gS) ?_
                        clear hK K
                        (try simp only [Act.put, List.getElem_toArray, List.getElem_cons_succ, List.getElem_cons_zero, List.setIfInBounds_toArray, List.set_cons_zero, List.set_cons_succ])
                        have hB2 := hB
                        obtain ⟨m0, m1, m2, gm0, gm1, gm2⟩ := hB2
                        refine wpAnyH_one 13 (by kernel_rfl) rfl (by rfl) (fun K hK => ?_)
                        (try simp only [List.getElem_toArray, List.getElem_cons_succ, List.getElem_cons_zero])
                        go_simp
                        refine hK.out _ _ (fun h => absurd h (by decide)) ?_
                        clear hK K
                        (try simp only [Act.put, List.getElem_toArray, List.getElem_cons_succ, List.getElem_cons_zero, List.setIfInBounds_toArray, List.set_cons_zero, List.set_cons_succ])
                        refine wpAnyH_one 14 (by kernel_rfl) rfl (by rfl) (fun K hK => ?_)
                        (try simp only [List.getElem_toArray, List.getElem_cons_succ, List.getElem_cons_zero])
                        go_simp
                        refine hK.out _ _ (fun h => absurd h (by decide)) ?_
                        clear hK K
                        (try simp only [Act.put, List.getElem_toArray, List.getElem_cons_succ, List.getElem_cons_zero, List.setIfInBounds_toArray, List.set_cons_zero, List.set_cons_succ])
                        refine wpAnyH_done (by kernel_rfl) ?_ _
                        go_wp2
                        go_meet
                        exact ⟨_, rfl, by have := gR.size; omega, Lib.hid ⟨b7, A7, k7, c7, B7, l7, d7, hB.put _ _ _, h7.below (ext_put x9 (Nat.le_refl _) _ _ _), n7.mono (by omega), m7.mono (by omega)⟩, ext_put gS (by have := gR.size; omega) _ _ _⟩
                      · (try simp only [List.getElem_toArray, List.getElem_cons_succ, List.getElem_cons_zero])
                        go_simp
                        have hgz := gS.size
                        have hB := FBox.new s1 (.bool false) (.slice none 0 0) (.slice none 0 0) 34
                        have x9 : Ext s1 (s1.alloc (.cells #[.bool false, .slice none 0 0, .slice none 0 0] 34)) := ext_alloc (Below.refl _ _) _
                        generalize s1.alloc (.cells #[.bool false, .slice none 0 0, .slice none 0 0] 34) = s9 at *
                        have gS : Ext W4 s9 := gS.trans x9
                        have hlB := hB.lt
                        (try go_wp2_with fail)
                        refine hK.out _ _ (fun _ => gS) ?_
                        clear hK K
                        (try simp only [Act.put, List.getElem_toArray, List.getElem_cons_succ, List.getElem_cons_zero, List.setIfInBounds_toArray, List.set_cons_zero, List.set_cons_succ])
                        refine wpAnyH_one 8 (by kernel_rfl) rfl (by rfl) (fun K hK => ?_)
                        go_simp
                        go_at_call 69
                        refine (rdiv_ok (FracV.any (h1.below x9) fb_oneM (by omega)) (HEC2.out _ gS) HFq.out (by omega) HQS.out).mono ?_
                        rintro _ s2 ⟨b7, A7, k7, c7, B7, l7, d7, rfl, h7, x7, n7, m7⟩
                        have hgs := gS.size
                        have gS : Ext W4 s2 := Ext.trans gS x7
                        have gR := gS
                        (try go_wp2_with fail)
                        refine hK.out _ _ (fun _ => gS) ?_
                        clear hK K
                        (try simp only [Act.put, List.getElem_toArray, List.getElem_cons_succ, List.getElem_cons_zero, List.setIfInBounds_toArray, List.set_cons_zero, List.set_cons_succ])
                        refine wpAnyH_take 9 (v := ?_) rfl (by kernel_rfl) (by kernel_rfl) (by kernel_rfl) (by kernel_rfl) (by kernel_rfl) (fun _ _ _ h => h) (by rfl) (fun w' hw' => ?_) gS ?_
                        rotate_left
                        focus (go_simp; (try with_reducible rfl); done)
                        (try simp only [Act.put, List.getElem_toArray, List.getElem_cons_succ, List.getElem_cons_zero, List.setIfInBounds_toArray, List.set_cons_zero, List.set_cons_succ])
                        refine wpAnyH_take 10 (v := ?_) rfl (by kernel_rfl) (by kernel_rfl) (by kernel_rfl) (by kernel_rfl) (by kernel_rfl) (fun _ _ _ h => h) (by rfl) (fun w' hw' => ?_) gS ?_
                        rotate_left
                        focus (go_simp; (try with_reducible rfl); done)
                        (try simp only [Act.put, List.getElem_toArray, List.getElem_cons_succ, List.getElem_cons_zero, List.setIfInBounds_toArray, List.set_cons_zero, List.set_cons_succ])
                        refine wpAnyH_takeF 11 (v := ?_) rfl (by kernel_rfl) (by kernel_rfl) (by kernel_rfl) (by kernel_rfl) (fun _ _ _ h => h) (by rfl) (fun w' => ?_) ?_
                        rotate_left
                        focus (go_simp; (try with_reducible rfl); done)
                        (try simp only [Act.put, List.getElem_toArray, List.getElem_cons_succ, List.getElem_cons_zero, List.setIfInBounds_toArray, List.set_cons_zero, List.set_cons_succ])
                        have hB2 := hB.below x7
                        have hB := hB.below x7
                        obtain ⟨m0, m1, m2, gm0, gm1, gm2⟩ := hB2
                        refine wpAnyH_one 13 (by kernel_rfl) rfl (by rfl) (fun K hK => ?_)
                        (try simp only [List.getElem_toArray, List.getElem_cons_succ, List.getElem_cons_zero])
                        go_simp
                        refine hK.out _ _ (fun h => absurd h (by decide)) ?_
                        clear hK K
                        (try simp only [Act.put, List.getElem_toArray, List.getElem_cons_succ, List.getElem_cons_zero, List.setIfInBounds_toArray, List.set_cons_zero, List.set_cons_succ])
                        refine wpAnyH_one 14 (by kernel_rfl) rfl (by rfl) (fun K hK => ?_)
                        (try simp only [List.getElem_toArray, List.getElem_cons_succ, List.getElem_cons_zero])
                        go_simp
                        refine hK.out _ _ (fun h => absurd h (by decide)) ?_
                        clear hK K
                        (try simp only [Act.put, List.getElem_toArray, List.getElem_cons_succ, List.getElem_cons_zero, List.setIfInBounds_toArray, List.set_cons_zero, List.set_cons_succ])
                        refine wpAnyH_done (by kernel_rfl) ?_ _
                        go_wp2
                        go_meet
                        exact ⟨_, rfl, by omega, Lib.hid (FId.put hB h7 n7 m7 hlB (by omega)), ext_put gS (by omega) _ _ _⟩
                    · (try simp only [List.getElem_toArray, List.getElem_cons_succ, List.getElem_cons_zero])
                      go_simp
                      have hB : FBox (W4.alloc (.cells #[.bool false, .slice none 0 0, .slice none 0 0] 34)).drew W4.heap.size (.bool false) (.slice none 0 0) (.slice none 0 0) := FBox.new W4 (.bool false) (.slice none 0 0) (.slice none 0 0) 34
                      have gS : Ext W4 (W4.alloc (.cells #[.bool false, .slice none 0 0, .slice none 0 0] 34)).drew := (ext_alloc (Below.refl _ _) _).drew
                      generalize (W4.alloc (.cells #[.bool false, .slice none 0 0, .slice none 0 0] 34)).drew = s9 at *
                      have hlB := hB.lt
                      (try go_wp2_with fail)
                      refine hK.out _ _ (fun _ => gS) ?_
                      clear hK K
                      (try simp only [Act.put, List.getElem_toArray, List.getElem_cons_succ, List.getElem_cons_zero, List.setIfInBounds_toArray, List.set_cons_zero, List.set_cons_succ])
                      refine wpAnyH_one 0 (by kernel_rfl) rfl (by rfl) (fun K hK => ?_)
                      go_simp
                      go_at_call 57
                      refine rone_n.mono ?_
                      rintro _ s1 ⟨b1, A8, k8, c8, B8, l8, d8, rfl, h1, z1, _, _⟩
                      have gS : Ext W4 s1 := Ext.trans gS z1
                      (try go_wp2_with fail)
                      refine hK.out _ _ (fun _ => gS) ?_
                      clear hK K
                      (try simp only [Act.put, List.getElem_toArray, List.getElem_cons_succ, List.getElem_cons_zero, List.setIfInBounds_toArray, List.set_cons_zero, List.set_cons_succ])
                      refine wpAnyH_one 8 (by kernel_rfl) rfl (by rfl) (fun K hK => ?_)
                      go_simp
                      go_at_call 69
                      refine (rdiv_ok (FracV.any (h1.below (Below.refl _ _)) fb_oneM (by omega)) (HEC2.out _ gS) HFq.out (by omega) HQS.out).mono ?_
                      rintro _ s2 ⟨b7, A7, k7, c7, B7, l7, d7, rfl, h7, x7, n7, m7⟩
                      have hgs := gS.size
                      have gS : Ext W4 s2 := Ext.trans gS x7
                      have gR := gS
                      (try go_wp2_with fail)
                      refine hK.out _ _ (fun _ => gS) ?_
                      clear hK K
                      (try simp only [Act.put, List.getElem_toArray, List.getElem_cons_succ, List.getElem_cons_zero, List.setIfInBounds_toArray, List.set_cons_zero, List.set_cons_succ])
                      refine wpAnyH_take 9 (v := ?_) rfl (by kernel_rfl) (by kernel_rfl) (by kernel_rfl) (by kernel_rfl) (by kernel_rfl) (fun _ _ _ h => h) (by rfl) (fun w' hw' => ?_) gS ?_
                      rotate_left
                      focus (go_simp; (try with_reducible rfl); done)
                      (try simp only [Act.put, List.getElem_toArray, List.getElem_cons_succ, List.getElem_cons_zero, List.setIfInBounds_toArray, List.set_cons_zero, List.set_cons_succ])
                      refine wpAnyH_take 10 (v := ?_) rfl (by kernel_rfl) (by kernel_rfl) (by kernel_rfl) (by kernel_rfl) (by kernel_rfl) (fun _ _ _ h => h) (by rfl) (fun w' hw' => ?_) gS ?_
                      rotate_left
                      focus (go_simp; (try with_reducible rfl); done)
                      (try simp only [Act.put, List.getElem_toArray, List.getElem_cons_succ, List.getElem_cons_zero, List.setIfInBounds_toArray, List.set_cons_zero, List.set_cons_succ])
                      refine wpAnyH_takeF 11 (v := ?_) rfl (by kernel_rfl) (by kernel_rfl) (by kernel_rfl) (by kernel_rfl) (fun _ _ _ h => h) (by rfl) (fun w' => ?_) ?_
                      rotate_left
                      focus (go_simp; (try with_reducible rfl); done)
                      (try simp only [Act.put, List.getElem_toArray, List.getElem_cons_succ, List.getElem_cons_zero, List.setIfInBounds_toArray, List.set_cons_zero, List.set_cons_succ])
                      have hB2 := hB.below (z1.trans x7)
                      have hB := hB.below (z1.trans x7)
                      obtain ⟨m0, m1, m2, gm0, gm1, gm2⟩ := hB2
                      refine wpAnyH_one 13 (by kernel_rfl) rfl (by rfl) (fun K hK => ?_)
                      (try simp only [List.getElem_toArray, List.getElem_cons_succ, List.getElem_cons_zero])
                      go_simp
                      refine hK.out _ _ (fun h => absurd h (by decide)) ?_
                      clear hK K
                      (try simp only [Act.put, List.getElem_toArray, List.getElem_cons_succ, List.getElem_cons_zero, List.setIfInBounds_toArray, List.set_cons_zero, List.set_cons_succ])
                      refine wpAnyH_one 14 (by kernel_rfl) rfl (by rfl) (fun K hK => ?_)
                      (try simp only [List.getElem_toArray, List.getElem_cons_succ, List.getElem_cons_zero])
                      go_simp
                      refine hK.out _ _ (fun h => absurd h (by decide)) ?_
                      clear hK K
                      (try simp only [Act.put, List.getElem_toArray, List.getElem_cons_succ, List.getElem_cons_zero, List.setIfInBounds_toArray, List.set_cons_zero, List.set_cons_succ])
                      refine wpAnyH_done (by kernel_rfl) ?_ _
                      go_wp2
                      go_meet
                      exact ⟨_, rfl, by omega, Lib.hid (FId.put hB h7 n7 m7 (by have := z1.size; omega) (by omega)), ext_put gS (Nat.le_refl _) _ _ _⟩
                  case rest =>
                    clear HS HEC2
                    obtain ⟨BY, rfl, hBY, HBY, hyc⟩ := hcut
                    have HM5 := Lib.hid (HM4.out.ext hyc)
                    have HLV5 := Lib.hid (HLV4.out.kept (Ext.grown hyc) (by cases AL <;> simp [Value.ownBlock]))
                    have HD5 := Lib.hid (HD4.out.ext hyc)
                    have hx5 : Ext W0 wc := hx4.trans hyc
                    have hs5 : W6.heap.size ≤ wc.heap.size := Nat.le_trans hs4 hyc.size
                    have hck := (hyc.cell (p := ⟨gv, kk, none⟩) hgvl).trans hck
                    have hfk := (hyc.frozen (p := ⟨gv, kk, none⟩) hgvl).trans hfk
                    have hgvc : gv < wc.heap.size := Nat.lt_of_lt_of_le hgvl hyc.size
                    clear HM4 HLV4 HD4 hx4 hs4 hgvl hgkl hyc
                    obtain ⟨ny, Y1, y1, o1, Y2, y2, o2, hBx, vY, _, _⟩ := HBY.out
                    have HPA := Lib.hid (fun (w' : World) (h : Ext wc w') => FracV.any (vY.below h) HFQI.out (by omega))
                    have HEF := Lib.hid (fun (w' : World) (h : Ext wc w') => (HM5.out.efs HUK.out).below h)
                    have hi3 : (0 : Int) ≤ (kk : Int) := by omega
                    have hi4 : (kk : Int) < (n : Int) := by omega
                    have HS := Lib.hid (fun (w' : World) (h : Ext wc w') => (⟨(h.cell (p := ⟨gv, kk, none⟩) hgvc).trans hck, (hBx.below h).1, (hBx.below h).2.1, (hBx.below h).2.2.1⟩ : w'.cell? ⟨gv, kk, none⟩ = some (.slice (some ⟨gk, 0, none⟩) C ck) ∧ w'.cell? ⟨BY, 0, none⟩ = some (.bool ny) ∧ w'.cell? ⟨BY, 1, none⟩ = some (.slice Y1 y1 o1) ∧ w'.cell? ⟨BY, 2, none⟩ = some (.slice Y2 y2 o2)))
                    have HZf := Lib.hid (fun (w' : World) (h : Ext wc w') => (h.frozen (p := ⟨gv, kk, none⟩) hgvc).trans hfk)
                    have HFR := Lib.hid (HFS.out kk)
                    have hlvs : ∀ g, (Value.slice AL kk cL).ownBlock = some g → g < wc.heap.size := fun g hg => (HLV5.out.lt g hg).2
                    clear vY hBx hck hfk HBY
                    go_upto_region 22 with (fail)
                    refine wp_region_G (fun w' => Ext wc w') [9] (by kernel_rfl) ?_
                    have gS : Ext wc wc.drew := (Below.refl _ _).drew
                    refine wpAnyG_take 0 (v := ?_) rfl (by kernel_rfl) (by kernel_rfl) (by kernel_rfl) (by kernel_rfl) (by rfl) (by kernel_rfl) (fun _ _ _ h => h) (by rfl) (fun w' hw' => ?_) gS ?_
                    rotate_left
                    focus (go_simp; (try with_reducible rfl); done)
                    (try simp only [Act.put, List.getElem_toArray, List.getElem_cons_succ, List.getElem_cons_zero, List.setIfInBounds_toArray, List.set_cons_zero, List.set_cons_succ])
                    refine wpAnyG_take 1 (v := ?_) rfl (by kernel_rfl) (by kernel_rfl) (by kernel_rfl) (by kernel_rfl) (by rfl) (by kernel_rfl) (fun _ _ _ h => h) (by rfl) (fun w' hw' => ?_) gS ?_
                    rotate_left
                    focus (go_simp; (try with_reducible rfl); done)
                    (try simp only [Act.put, List.getElem_toArray, List.getElem_cons_succ, List.getElem_cons_zero, List.setIfInBounds_toArray, List.set_cons_zero, List.set_cons_succ])
                    refine wpAnyG_take 2 (v := ?_) rfl (by kernel_rfl) (by kernel_rfl) (by kernel_rfl) (by kernel_rfl) (by rfl) (by kernel_rfl) (fun _ _ _ h => h) (by rfl) (fun w' hw' => ?_) gS ?_
                    rotate_left
                    focus (go_simp; (try with_reducible rfl); done)
                    (try simp only [Act.put, List.getElem_toArray, List.getElem_cons_succ, List.getElem_cons_zero, List.setIfInBounds_toArray, List.set_cons_zero, List.set_cons_succ])
                    refine wpAnyG_take 3 (v := ?_) rfl (by kernel_rfl) (by kernel_rfl) (by kernel_rfl) (by kernel_rfl) (by rfl) (by kernel_rfl) (fun _ _ _ h => h) (by rfl) (fun w' hw' => ?_) gS ?_
                    rotate_left
                    focus (go_simp; (try with_reducible rfl); done)
                    (try simp only [Act.put, List.getElem_toArray, List.getElem_cons_succ, List.getElem_cons_zero, List.setIfInBounds_toArray, List.set_cons_zero, List.set_cons_succ])
                    refine wpAnyG_take 4 (v := ?_) rfl (by kernel_rfl) (by kernel_rfl) (by kernel_rfl) (by kernel_rfl) (by rfl) (by kernel_rfl) (fun _ _ _ h => h) (by rfl) (fun w' hw' => ?_) gS ?_
                    rotate_left
                    focus (go_simp; (try with_reducible rfl); done)
                    (try simp only [Act.put, List.getElem_toArray, List.getElem_cons_succ, List.getElem_cons_zero, List.setIfInBounds_toArray, List.set_cons_zero, List.set_cons_succ])
                    refine wpAnyG_take 5 (v := ?_) rfl (by kernel_rfl) (by kernel_rfl) (by kernel_rfl) (by kernel_rfl) (by rfl) (by kernel_rfl) (fun _ _ _ h => h) (by rfl) (fun w' hw' => ?_) gS ?_
                    rotate_left
                    focus (have hh := HS.out _ hw'; go_split_ands; go_simp; (try with_reducible rfl); done)
                    (try simp only [Act.put, List.getElem_toArray, List.getElem_cons_succ, List.getElem_cons_zero, List.setIfInBounds_toArray, List.set_cons_zero, List.set_cons_succ])
                    refine wpAnyG_take 6 (v := ?_) rfl (by kernel_rfl) (by kernel_rfl) (by kernel_rfl) (by kernel_rfl) (by rfl) (by kernel_rfl) (fun _ _ _ h => h) (by rfl) (fun w' hw' => ?_) gS ?_
                    rotate_left
                    focus (have hh := HS.out _ hw'; go_split_ands; go_simp; (try with_reducible rfl); done)
                    (try simp only [Act.put, List.getElem_toArray, List.getElem_cons_succ, List.getElem_cons_zero, List.setIfInBounds_toArray, List.set_cons_zero, List.set_cons_succ])
                    refine wpAnyG_one 7 (by kernel_rfl) rfl (by rfl) (fun K hK => ?_)
                    go_simp
                    have hg7 := gS.size
                    go_at_call 68
                    refine (rscaled_n (HEF.out _ gS) (HPA.out _ gS) (fun j hj => HFR.out j hkp hj) (by omega) (by omega) (by omega) ⟨_, _, _, rfl⟩ ⟨_, _, _, rfl⟩).mono ?_
                    rintro _ s6 ⟨A6, c6, rfl, h6, x6⟩
                    have h6 := Lib.hid (h6.lower hg7)
                    have gS : Ext wc s6 := Ext.trans gS x6
                    have gR := gS
                    (try go_wp2_with fail)
                    refine hK.out _ _ (fun _ => gS) ?_
                    clear hK K
                    (try simp only [Act.put, List.getElem_toArray, List.getElem_cons_succ, List.getElem_cons_zero, List.setIfInBounds_toArray, List.set_cons_zero, List.set_cons_succ])
                    refine wpAnyG_take 8 (v := ?_) rfl (by kernel_rfl) (by kernel_rfl) (by kernel_rfl) (by kernel_rfl) (by rfl) (by kernel_rfl) (fun _ _ _ h => h) (by rfl) (fun w' hw' => ?_) gS ?_
                    rotate_left
                    focus (go_simp; (try with_reducible rfl); done)
                    (try simp only [Act.put, List.getElem_toArray, List.getElem_cons_succ, List.getElem_cons_zero, List.setIfInBounds_toArray, List.set_cons_zero, List.set_cons_succ])
                    have hz0 := HZf.out _ gS
                    obtain ⟨hv0, _⟩ := HS.out _ gS
                    refine wpAnyG_one 9 (by kernel_rfl) rfl (by rfl) (fun K hK => ?_)
                    (try simp only [List.getElem_toArray, List.getElem_cons_succ, List.getElem_cons_zero])
                    go_simp
                    refine hK.out _ _ (fun h => absurd h (by decide)) ?_
                    clear hK K
                    (try simp only [Act.put, List.getElem_toArray, List.getElem_cons_succ, List.getElem_cons_zero, List.setIfInBounds_toArray, List.set_cons_zero, List.set_cons_succ])
                    refine wpAnyG_done (by kernel_rfl) ?_ _
                    obtain ⟨S2, hS2⟩ : ∃ S2, S2 = scl S kk c := ⟨_, rfl⟩
                    have HM7 := Lib.hid ((narrow3 (HM5.out.repl gR hkp h6.out hx5.size)).congr (M' := S2) fun i' j' _ _ => by rw [hS2, ← rpl_scl HQD.out.symm])
                    have hfr : Fr (.slice (some ⟨gv, 0, none⟩) n cV) [] wc (s6.setCell ⟨gv, kk, none⟩ (.slice A6 C c6)) := fr_v rfl gR
                    have HLV7 := Lib.hid (ownsRow_fr HLV5.out hfr fun b hb => HBL.out.not (Nat.le_trans hS6 (HLV5.out.lt b hb).1))
                    have HD7 := Lib.hid (HD5.out.fr HBL.out hB6 hfr)
                    have HAP7 := Lib.hid (HAP'.out.set (k := kk) (w := wc) h6.out.new (by omega) hlvs)
                    have hx7 : Ext W0 (s6.setCell ⟨gv, kk, none⟩ (.slice A6 C c6)) := ext_set (hx5.trans gR) hbv _
                    have hs7 : W6.heap.size ≤ (s6.setCell ⟨gv, kk, none⟩ (.slice A6 C c6)).heap.size := by have := gR.size; simp; omega
                    have HFS2 := Lib.hid (show FBm S2 n C 80707214000 from by rw [hS2]; exact (fbm_scl HFS.out (by omega) hkp hcC).mono (by omega))
                    have HS2 := Lib.hid hS2
                    obtain ⟨us7, hus7⟩ : ∃ us7, us7 = us'.set kk (.slice A6 C c6) := ⟨_, rfl⟩
                    rw [← hus7] at HM7 HAP7
                    generalize s6.setCell ⟨gv, kk, none⟩ (.slice A6 C c6) = W7 at *
                    clear HM5 HLV5 HD5 hx5 hs5 HPA HEF HS HZf HFR hlvs h6 x6 gS gR hz0 hv0 hfr hS2 hus7 HUK HAP' HFS hgvc hg7
                    go_wp2
                    go_loopw [14] (fun iv wr => ∃ (i : Nat) (us : List Value), i ≤ n ∧ iv = .int .i64 i ∧ Hid (MatO true W0.heap.size wr (.slice (some ⟨gv, 0, none⟩) n cV) n C us (bxV B6 :: .slice AL kk cL :: us) (fun a b => if a < i then elm S2 kk c a b else S2 a b)) ∧ Hid (wr.ownsRow W6.heap.size 3 1 (.slice AL kk cL) kk (i64l (s.leads.map (fun l : Nat => (l : Int))))) ∧ Hid (FIx W1.heap.size wr B6 (a' * q) (.slice AL kk cL)) ∧ Hid (ApR us B6 (.slice AL kk cL)) ∧ Ext W0 wr ∧ W6.heap.size ≤ wr.heap.size) (fun iv _ => n - (intOf iv).toNat)
                    case atStart => exact ⟨0, us7, Nat.zero_le _, rfl, Lib.hid (HM7.out.congr fun i' j' _ _ => (if_neg (Nat.not_lt_zero _)).symm), HLV7, HD7, HAP7, hx7, hs7⟩
                    case round =>
                      clear HM7 HLV7 HD7 HAP7 hx7 hs7
                      obtain ⟨i, us2, hi', rfl, HMI, HLI, HDI, HAI, hxi, hsi⟩ := hrel
                      by_cases hin : i < n
                      · have hi1 : (0 : Int) ≤ (i : Int) := by omega
                        have hi2 : (i : Int) < (n : Int) := by omega
                        by_cases hik : i = kk
                        · have hie : ((i : Int) != (kk : Int)) = false := by simp; omega
                          go_wp2
                          go_roundw
                          case rel => exact ⟨i + 1, us2, by omega, by go_num, Lib.hid (HMI.out.congr fun i' j' _ _ => elm_skip hik), HLI, HDI, HAI, hxi, hsi⟩
                          case measure => simp [intOf]; omega
                        · have hie : ((i : Int) != (kk : Int)) = true := by rw [bne_iff_ne]; omega
                          have hie' : ¬ ((i : Int) = (kk : Int)) := by omega
                          obtain ⟨gi, ci, hui, hci, hfi, hgvl, hgil, _, hbv2, hbi⟩ := HMI.out.row_of hin (by omega)
                          obtain ⟨gk, ck, huk, hck, hfk, _, hgkl, _, _, _⟩ := HMI.out.row_of hkp (by omega)
                          obtain ⟨nd, A1, k1, c1, A2, k2, c2, e0, e1, e2, _, _, _, he, _, _⟩ := HMI.out.ent_at hui hcC
                          rw [if_neg (Nat.lt_irrefl i)] at he
                          have HEC2 := Lib.hid (fun (w' : World) (h : Ext wr w') => (he.below h).any (HFS2.out i c hin hcC) (by omega) (by omega))
                          have hefk := (HMI.out.efs huk).congr (g := S2 kk) fun j _ => by
                            show (if kk < i then elm S2 kk c kk j else S2 kk j) = _
                            rw [elm_at, if_pos rfl]
                            split <;> rfl
                          have hefi := (HMI.out.efs hui).congr (g := S2 i) fun j _ => by
                            show (if i < i then elm S2 kk c i j else S2 i j) = _
                            rw [if_neg (Nat.lt_irrefl i)]
                          have HEK := Lib.hid (fun (w' : World) (h : Ext wr w') => hefk.below h)
                          have HEI := Lib.hid (fun (w' : World) (h : Ext wr w') => hefi.below h)
                          have HS := Lib.hid (fun (w' : World) (h : Ext wr w') => (⟨(h.cell (p := ⟨gv, i, none⟩) hgvl).trans hci, (h.cell (p := ⟨gv, kk, none⟩) hgvl).trans hck, (h.cell (p := ⟨gi, c * 3, none⟩) hgil).trans e0, (h.cell (p := ⟨gi, c * 3 + 1, none⟩) hgil).trans e1, (h.cell (p := ⟨gi, c * 3 + 2, none⟩) hgil).trans e2⟩ : w'.cell? ⟨gv, i, none⟩ = some (.slice (some ⟨gi, 0, none⟩) C ci) ∧ w'.cell? ⟨gv, kk, none⟩ = some (.slice (some ⟨gk, 0, none⟩) C ck) ∧ w'.cell? ⟨gi, c * 3, none⟩ = some (.bool nd) ∧ w'.cell? ⟨gi, c * 3 + 1, none⟩ = some (.slice A1 k1 c1) ∧ w'.cell? ⟨gi, c * 3 + 2, none⟩ = some (.slice A2 k2 c2)))
                          have HZf := Lib.hid (fun (w' : World) (h : Ext wr w') => (h.frozen (p := ⟨gv, i, none⟩) hgvl).trans hfi)
                          have HFI1 := Lib.hid (fun j (hj : j < C) => HFS2.out i j hin hj)
                          have HFK1 := Lib.hid (fun j (hj : j < C) => HFS2.out kk j hkp hj)
                          have HFKI := Lib.hid (fun j (hj : j < C) => FB.mul (HFS2.out kk j hkp hj) (HFS2.out i c hin hcC) (by omega))
                          have hlvs : ∀ g, (Value.slice AL kk cL).ownBlock = some g → g < wr.heap.size := fun g hg => (HLI.out.lt g hg).2
                          have hi3 : (0 : Int) ≤ (kk : Int) := by omega
                          have hi4 : (kk : Int) < (n : Int) := by omega
                          clear he e0 e1 e2 hefk hefi hci hck hfi hfk
                          go_upto_region 27 with (fail)
                          refine wp_region_G (fun w' => Ext wr w') [20] (by kernel_rfl) ?_
                          have gS : Ext wr wr.drew := (Below.refl _ _).drew
                          refine wpAnyG_take 0 (v := ?_) rfl (by kernel_rfl) (by kernel_rfl) (by kernel_rfl) (by kernel_rfl) (by rfl) (by kernel_rfl) (fun _ _ _ h => h) (by rfl) (fun w' hw' => ?_) gS ?_
                          rotate_left
                          focus (go_simp; (try with_reducible rfl); done)
                          (try simp only [Act.put, List.getElem_toArray, List.getElem_cons_succ, List.getElem_cons_zero, List.setIfInBounds_toArray, List.set_cons_zero, List.set_cons_succ])
                          refine wpAnyG_take 1 (v := ?_) rfl (by kernel_rfl) (by kernel_rfl) (by kernel_rfl) (by kernel_rfl) (by rfl) (by kernel_rfl) (fun _ _ _ h => h) (by rfl) (fun w' hw' => ?_) gS ?_
                          rotate_left
                          focus (go_simp; (try with_reducible rfl); done)
                          (try simp only [Act.put, List.getElem_toArray, List.getElem_cons_succ, List.getElem_cons_zero, List.setIfInBounds_toArray, List.set_cons_zero, List.set_cons_succ])
                          refine wpAnyG_take 2 (v := ?_) rfl (by kernel_rfl) (by kernel_rfl) (by kernel_rfl) (by kernel_rfl) (by rfl) (by kernel_rfl) (fun _ _ _ h => h) (by rfl) (fun w' hw' => ?_) gS ?_
                          rotate_left
                          focus (go_simp; (try with_reducible rfl); done)
                          (try simp only [Act.put, List.getElem_toArray, List.getElem_cons_succ, List.getElem_cons_zero, List.setIfInBounds_toArray, List.set_cons_zero, List.set_cons_succ])
                          refine wpAnyG_take 3 (v := ?_) rfl (by kernel_rfl) (by kernel_rfl) (by kernel_rfl) (by kernel_rfl) (by rfl) (by kernel_rfl) (fun _ _ _ h => h) (by rfl) (fun w' hw' => ?_) gS ?_
                          rotate_left
                          focus (go_simp; (try with_reducible rfl); done)
                          (try simp only [Act.put, List.getElem_toArray, List.getElem_cons_succ, List.getElem_cons_zero, List.setIfInBounds_toArray, List.set_cons_zero, List.set_cons_succ])
                          refine wpAnyG_take 4 (v := ?_) rfl (by kernel_rfl) (by kernel_rfl) (by kernel_rfl) (by kernel_rfl) (by rfl) (by kernel_rfl) (fun _ _ _ h => h) (by rfl) (fun w' hw' => ?_) gS ?_
                          rotate_left
                          focus (go_simp; (try with_reducible rfl); done)
                          (try simp only [Act.put, List.getElem_toArray, List.getElem_cons_succ, List.getElem_cons_zero, List.setIfInBounds_toArray, List.set_cons_zero, List.set_cons_succ])
                          refine wpAnyG_take 5 (v := ?_) rfl (by kernel_rfl) (by kernel_rfl) (by kernel_rfl) (by kernel_rfl) (by rfl) (by kernel_rfl) (fun _ _ _ h => h) (by rfl) (fun w' hw' => ?_) gS ?_
                          rotate_left
                          focus (have hh := HS.out _ hw'; go_split_ands; go_simp; (try with_reducible rfl); done)
                          (try simp only [Act.put, List.getElem_toArray, List.getElem_cons_succ, List.getElem_cons_zero, List.setIfInBounds_toArray, List.set_cons_zero, List.set_cons_succ])
                          refine wpAnyG_take 6 (v := ?_) rfl (by kernel_rfl) (by kernel_rfl) (by kernel_rfl) (by kernel_rfl) (by rfl) (by kernel_rfl) (fun _ _ _ h => h) (by rfl) (fun w' hw' => ?_) gS ?_
                          rotate_left
                          focus (go_simp; (try with_reducible rfl); done)
                          (try simp only [Act.put, List.getElem_toArray, List.getElem_cons_succ, List.getElem_cons_zero, List.setIfInBounds_toArray, List.set_cons_zero, List.set_cons_succ])
                          refine wpAnyG_take 7 (v := ?_) rfl (by kernel_rfl) (by kernel_rfl) (by kernel_rfl) (by kernel_rfl) (by rfl) (by kernel_rfl) (fun _ _ _ h => h) (by rfl) (fun w' hw' => ?_) gS ?_
                          rotate_left
                          focus (go_simp; (try with_reducible rfl); done)
                          (try simp only [Act.put, List.getElem_toArray, List.getElem_cons_succ, List.getElem_cons_zero, List.setIfInBounds_toArray, List.set_cons_zero, List.set_cons_succ])
                          refine wpAnyG_take 8 (v := ?_) rfl (by kernel_rfl) (by kernel_rfl) (by kernel_rfl) (by kernel_rfl) (by rfl) (by kernel_rfl) (fun _ _ _ h => h) (by rfl) (fun w' hw' => ?_) gS ?_
                          rotate_left
                          focus (go_simp; (try with_reducible rfl); done)
                          (try simp only [Act.put, List.getElem_toArray, List.getElem_cons_succ, List.getElem_cons_zero, List.setIfInBounds_toArray, List.set_cons_zero, List.set_cons_succ])
                          refine wpAnyG_take 9 (v := ?_) rfl (by kernel_rfl) (by kernel_rfl) (by kernel_rfl) (by kernel_rfl) (by rfl) (by kernel_rfl) (fun _ _ _ h => h) (by rfl) (fun w' hw' => ?_) gS ?_
                          rotate_left
                          focus (have hh := HS.out _ hw'; go_split_ands; go_simp; (try with_reducible rfl); done)
                          (try simp only [Act.put, List.getElem_toArray, List.getElem_cons_succ, List.getElem_cons_zero, List.setIfInBounds_toArray, List.set_cons_zero, List.set_cons_succ])
                          refine wpAnyG_take 10 (v := ?_) rfl (by kernel_rfl) (by kernel_rfl) (by kernel_rfl) (by kernel_rfl) (by rfl) (by kernel_rfl) (fun _ _ _ h => h) (by rfl) (fun w' hw' => ?_) gS ?_
                          rotate_left
                          focus (go_simp; (try with_reducible rfl); done)
                          (try simp only [Act.put, List.getElem_toArray, List.getElem_cons_succ, List.getElem_cons_zero, List.setIfInBounds_toArray, List.set_cons_zero, List.set_cons_succ])
                          refine wpAnyG_take 11 (v := ?_) rfl (by kernel_rfl) (by kernel_rfl) (by kernel_rfl) (by kernel_rfl) (by rfl) (by kernel_rfl) (fun _ _ _ h => h) (by rfl) (fun w' hw' => ?_) gS ?_
                          rotate_left
                          focus (go_simp; (try with_reducible rfl); done)
                          (try simp only [Act.put, List.getElem_toArray, List.getElem_cons_succ, List.getElem_cons_zero, List.setIfInBounds_toArray, List.set_cons_zero, List.set_cons_succ])
                          refine wpAnyG_take 12 (v := ?_) rfl (by kernel_rfl) (by kernel_rfl) (by kernel_rfl) (by kernel_rfl) (by rfl) (by kernel_rfl) (fun _ _ _ h => h) (by rfl) (fun w' hw' => ?_) gS ?_
                          rotate_left
                          focus (go_simp; (try with_reducible rfl); done)
                          (try simp only [Act.put, List.getElem_toArray, List.getElem_cons_succ, List.getElem_cons_zero, List.setIfInBounds_toArray, List.set_cons_zero, List.set_cons_succ])
                          refine wpAnyG_take 13 (v := ?_) rfl (by kernel_rfl) (by kernel_rfl) (by kernel_rfl) (by kernel_rfl) (by rfl) (by kernel_rfl) (fun _ _ _ h => h) (by rfl) (fun w' hw' => ?_) gS ?_
                          rotate_left
                          focus (have hh := HS.out _ hw'; go_split_ands; go_simp; (try with_reducible rfl); done)
                          (try simp only [Act.put, List.getElem_toArray, List.getElem_cons_succ, List.getElem_cons_zero, List.setIfInBounds_toArray, List.set_cons_zero, List.set_cons_succ])
                          refine wpAnyG_take 14 (v := ?_) rfl (by kernel_rfl) (by kernel_rfl) (by kernel_rfl) (by kernel_rfl) (by rfl) (by kernel_rfl) (fun _ _ _ h => h) (by rfl) (fun w' hw' => ?_) gS ?_
                          rotate_left
                          focus (go_simp; (try with_reducible rfl); done)
                          (try simp only [Act.put, List.getElem_toArray, List.getElem_cons_succ, List.getElem_cons_zero, List.setIfInBounds_toArray, List.set_cons_zero, List.set_cons_succ])
                          refine wpAnyG_take 15 (v := ?_) rfl (by kernel_rfl) (by kernel_rfl) (by kernel_rfl) (by kernel_rfl) (by rfl) (by kernel_rfl) (fun _ _ _ h => h) (by rfl) (fun w' hw' => ?_) gS ?_
                          rotate_left
                          focus (go_simp; (try with_reducible rfl); done)
                          (try simp only [Act.put, List.getElem_toArray, List.getElem_cons_succ, List.getElem_cons_zero, List.setIfInBounds_toArray, List.set_cons_zero, List.set_cons_succ])
                          refine wpAnyG_take 16 (v := ?_) rfl (by kernel_rfl) (by kernel_rfl) (by kernel_rfl) (by kernel_rfl) (by rfl) (by kernel_rfl) (fun _ _ _ h => h) (by rfl) (fun w' hw' => ?_) gS ?_
                          rotate_left
                          focus (have hh := HS.out _ hw'; go_split_ands; go_simp; (try with_reducible rfl); done)
                          (try simp only [Act.put, List.getElem_toArray, List.getElem_cons_succ, List.getElem_cons_zero, List.setIfInBounds_toArray, List.set_cons_zero, List.set_cons_succ])
                          refine wpAnyG_one 17 (by kernel_rfl) rfl (by rfl) (fun K hK => ?_)
                          (try simp only [List.getElem_toArray, List.getElem_cons_succ, List.getElem_cons_zero])
                          go_simp
                          go_at_call 68
                          refine (rscaled_n (HEK.out _ gS) (HEC2.out _ gS) (fun j hj => HFK1.out j hj) (by omega) (by omega) (by omega) ⟨_, _, _, rfl⟩ ⟨_, _, _, rfl⟩).mono ?_
                          rintro _ s5 ⟨A5, c5, rfl, h5, x5⟩
                          have gS : Ext wr s5 := Ext.trans gS x5
                          (try go_wp2_with fail)
                          refine hK.out _ _ (fun _ => gS) ?_
                          clear hK K
                          (try simp only [Act.put, List.getElem_toArray, List.getElem_cons_succ, List.getElem_cons_zero, List.setIfInBounds_toArray, List.set_cons_zero, List.set_cons_succ])
                          refine wpAnyG_one 18 (by kernel_rfl) rfl (by rfl) (fun K hK => ?_)
                          (try simp only [List.getElem_toArray, List.getElem_cons_succ, List.getElem_cons_zero])
                          go_simp
                          have hg7 := gS.size
                          go_at_call 70
                          refine (rless_n (HEI.out _ gS) h5.efs (fun j hj => HFI1.out j hj) (fun j hj => HFKI.out j hj) (by omega) (by omega) (by omega) (by omega)).mono ?_
                          rintro _ s6 ⟨A6, c6, rfl, h6, x6⟩
                          have h6 := Lib.hid (h6.lower hg7)
                          have gS : Ext wr s6 := Ext.trans gS x6
                          have gR := gS
                          (try go_wp2_with fail)
                          refine hK.out _ _ (fun _ => gS) ?_
                          clear hK K
                          (try simp only [Act.put, List.getElem_toArray, List.getElem_cons_succ, List.getElem_cons_zero, List.setIfInBounds_toArray, List.set_cons_zero, List.set_cons_succ])
                          refine wpAnyG_take 19 (v := ?_) rfl (by kernel_rfl) (by kernel_rfl) (by kernel_rfl) (by kernel_rfl) (by rfl) (by kernel_rfl) (fun _ _ _ h => h) (by rfl) (fun w' hw' => ?_) gS ?_
                          rotate_left
                          focus (go_simp; (try with_reducible rfl); done)
                          (try simp only [Act.put, List.getElem_toArray, List.getElem_cons_succ, List.getElem_cons_zero, List.setIfInBounds_toArray, List.set_cons_zero, List.set_cons_succ])
                          have hz0 := HZf.out _ gS
                          obtain ⟨hv0, _⟩ := HS.out _ gS
                          refine wpAnyG_one 20 (by kernel_rfl) rfl (by rfl) (fun K hK => ?_)
                          (try simp only [List.getElem_toArray, List.getElem_cons_succ, List.getElem_cons_zero])
                          go_simp
                          refine hK.out _ _ (fun h => absurd h (by decide)) ?_
                          clear hK K
                          (try simp only [Act.put, List.getElem_toArray, List.getElem_cons_succ, List.getElem_cons_zero, List.setIfInBounds_toArray, List.set_cons_zero, List.set_cons_succ])
                          refine wpAnyG_done (by kernel_rfl) ?_ _
                          go_wp2
                          have hfr : Fr (.slice (some ⟨gv, 0, none⟩) n cV) [] wr (s6.setCell ⟨gv, i, none⟩ (.slice A6 C c6)) := fr_v rfl gR
                          go_roundw
                          case rel => exact ⟨i + 1, us2.set i (.slice A6 C c6), by omega, by go_num, Lib.hid ((narrow3 (HMI.out.repl gR hin h6.out hxi.size)).congr fun i' j' _ _ => elm_rpl hik), Lib.hid (ownsRow_fr HLI.out hfr fun b hb => HBL.out.not (Nat.le_trans hS6 (HLI.out.lt b hb).1)), Lib.hid (HDI.out.fr HBL.out hB6 hfr), Lib.hid (HAI.out.set (w := wr) h6.out.new (by omega) hlvs), ext_set (hxi.trans gR) hbv2 _, by have := gR.size; simp; omega⟩
                          case measure => simp [intOf]; omega
                      · obtain rfl : n = i := by omega
                        have hii : ¬ ((n : Int) < (n : Int)) := by omega
                        have HM8 := Lib.hid (swap3 (HMI.out.congr (M' := elm S2 kk c) fun i' j' hi' _ => if_pos hi'))
                        obtain ⟨hRm, hRl⟩ := rd_yes HSU.out HKK.out HPV.out hpn HSD.out HS2.out
                        obtain ⟨R, hR⟩ : ∃ R, R = rrefs M n (c + 1) := ⟨_, rfl⟩
                        rw [← hR] at hRm hRl HRD
                        have HRDD := Lib.hid HRD.out
                        have hwk : IntKind.i64.wrap ((kk : Int) + 1) = (kk : Int) + 1 := wrap_in (by omega)
                        clear HMI HFS2
                        go_wp2_with (at_builtin; refine wpList_append_mine _ (by rfl) (.tmp 138) (.tmp 140) 53 (by rfl) W6.heap.size 3 i1 (.int .i64 0) 1 8 Try.underlying53 hi1' hx0' hx1' hx2' rfl (by omega) _ _ _ (by rfl) (World.ownsRow.kept HLI.out (Ext.grown (ext_alloc (Below.refl _ _) _)) (by cases AL <;> simp [Value.ownBlock])) ⟨wr.heap.size, 0, none⟩ 1 1 [.int .i64 c] (by rfl) rfl (cell_one wr _ _) (by simp [Value.oneCell']) (by unfold maxLen; omega) (by omega) (by simp; omega) ?_; intro v8 w8 ho8 hg8 hw8)
                        have xA : Ext wr (wr.alloc (.cells #[.int .i64 c] 3)) := ext_alloc (Below.refl _ _) _
                        have HM9 := Lib.hid (swap3 ((HM8.out.ext xA).other (fun u hu => List.mem_cons_of_mem _ hu) (fun b hb => ⟨(HBL.out.not (Nat.le_trans hS6 (HLI.out.lt b hb).1)).1, fun u hu e => (HAI.out u hu b e).2 hb⟩) hg8 hw8 (fun b hb => (ho8.lt b hb).2)))
                        have HD9 := Lib.hid ((HDI.out.ext xA).grow (fun e => by have := (HLI.out.lt B6 e).1; omega) hg8 hw8)
                        have HAP9 := Lib.hid (HAI.out.grow hw8 (fun u hu b hb => ((HM8.out.ext xA).lt (.inr ⟨u, hu, hb⟩)).2))
                        have hx8 : Ext W0 w8 := Below.grown (Ext.trans hxi xA) hg8 (by simp; omega) fun g hg => Nat.le_trans (by omega) (HLI.out.lt g hg).1
                        have hs8 : W6.heap.size ≤ w8.heap.size := by have := hg8.size; simp at this; omega
                        have HLV8 := Lib.hid (show w8.ownsRow W6.heap.size 3 1 v8 (s.leads ++ [c]).length (i64l ((s.leads ++ [c]).map (fun l : Nat => (l : Int)))) from by
                          rw [List.length_append, List.map_append, List.length_singleton, List.map_singleton, ← i64l_snoc, ← HKK.out]
                          exact ho8)
                        clear ho8 hg8 hw8
                        go_roundw
                        case rel => exact ⟨c + 1, us2, by omega, by rw [← hR, hRl, List.length_append, ← HKK.out]; go_num, by go_num, by rw [← hR, hRm]; exact HM9, by rw [← hR, hRl]; exact HLV8, by rw [← hR, HRDD.out]; exact HD9, HAP9, hx8, hs8⟩
                        case measure => simp [intOf]; omega
            · obtain rfl : n = p := by omega
              have hnn : ¬ ((n : Int) < (n : Int)) := by omega
              have hne : ((n : Int) == (n : Int)) = true := by simp
              obtain ⟨hRm, hRl⟩ := rd_no HSU.out HKK.out (piv_eq (M := s.m) (n := n) (c := c) (k := kk) hp1 hp2 hpz (.inl rfl)) rfl
              have hRd := rd_det0 HSU.out HKK.out (piv_eq (M := s.m) (n := n) (c := c) (k := kk) hp1 hp2 hpz (.inl rfl)) rfl
              obtain ⟨R, hR⟩ : ∃ R, R = rrefs M n (c + 1) := ⟨_, rfl⟩
              rw [← hR] at hRm hRl hRd
              obtain ⟨cc, MA, mk, ml, MA', mk', ml', hM, _, _, _, _⟩ := (HDT.out.ext hy)
              have hMl := hM.lt
              have HMb := Lib.hid (fun (w' : World) (h : Ext wr w') => hM.below h)
              have hlvs : ∀ g, (Value.slice AL kk cL).ownBlock = some g → g < wr.heap.size := fun g hg => Nat.lt_of_lt_of_le (HLV.out.lt g hg).2 hy.size
              have hLB : (Value.slice AL kk cL).ownBlock ≠ some B6 := fun e => by have := (HLV.out.lt B6 e).1; omega
              have hsy := hy.size
              clear hM
              go_wp2_with (go_at_call 41; (with_reducible refine (rfof_n (n := 0) (d := 1) (by omega) (by omega)).mono ?_); rintro _ s8 ⟨b8, A8, k8, c8, B8, l8, d8, rfl, h8, z8, n8, m8⟩; obtain ⟨m0, m1, m2, gm0, gm1, gm2⟩ := HMb.out _ z8)
              rw [zero_firstM] at h8
              go_roundw
              case rel => exact ⟨c + 1, us, by omega, by rw [← hR, hRl, ← HKK.out], by go_num, by rw [← hR, hRm]; exact Lib.hid ((HM.out.ext (hy.trans z8)).boxW2 (fun u hu => List.mem_cons_of_mem _ hu) ⟨(HBL.out.not hB6).1, HAP.out.box⟩ (by have := z8.size; omega) _ _ _), by rw [← hR, hRl, ← HKK.out]; exact Lib.hid ((HLV.out.kept (Ext.grown (hy.trans z8)) (by cases AL <;> simp [Value.ownBlock])).kept (box_grown _ _ _ _ _) (.inr hLB)), by rw [← hR, hRd]; exact Lib.hid (FIx.put (HMb.out _ z8) h8 n8 m8 hMl (by omega) hlvs), HAP, ext_put (hx.trans (hy.trans z8)) (by omega) _ _ _, by have := z8.size; simp; omega⟩
              case measure => simp [intOf]; omega
        · obtain rfl : C = c := by omega
          have hcc : ¬ ((C : Int) < (C : Int)) := by omega
          obtain ⟨cc, MA, mk, ml, MA', mk', ml', hM, vM, _, _, _⟩ := HDT.out
          have HMb := Lib.hid (fun (w' : World) (h : Ext wr w') => hM.below h)
          have HS := Lib.hid (fun (w' : World) (h : Ext wr w') => (⟨(HMb.out w' h).1, (HMb.out w' h).2.1, (HMb.out w' h).2.2.1⟩ : w'.cell? ⟨B6, 0, none⟩ = some (.bool cc) ∧ w'.cell? ⟨B6, 1, none⟩ = some (.slice MA mk ml) ∧ w'.cell? ⟨B6, 2, none⟩ = some (.slice MA' mk' ml')))
          clear hM
          go_upto_region 30 with (go_at_call 52; (with_reducible refine (HCO.out _ (HE.out.trans hx)).mono ?_); rintro e w3 ⟨rfl, hw3⟩; obtain rfl : wr = w3 := hw3.symm)
          refine wp_region_G (fun w' => Ext wr w') [5] (by kernel_rfl) ?_
          have gS : Ext wr wr.drew := (Below.refl _ _).drew
          refine wpAnyG_take 0 (v := ?_) rfl (by kernel_rfl) (by kernel_rfl) (by kernel_rfl) (by kernel_rfl) (by rfl) (by kernel_rfl) (fun _ _ _ h => h) (by rfl) (fun w' hw' => ?_) gS ?_
          rotate_left
          focus (go_simp; (try with_reducible rfl); done)
          (try simp only [Act.put, List.getElem_toArray, List.getElem_cons_succ, List.getElem_cons_zero, List.setIfInBounds_toArray, List.set_cons_zero, List.set_cons_succ])
          refine wpAnyG_take 1 (v := ?_) rfl (by kernel_rfl) (by kernel_rfl) (by kernel_rfl) (by kernel_rfl) (by rfl) (by kernel_rfl) (fun _ _ _ h => h) (by rfl) (fun w' hw' => ?_) gS ?_
          rotate_left
          focus (go_simp; (try with_reducible rfl); done)
          (try simp only [Act.put, List.getElem_toArray, List.getElem_cons_succ, List.getElem_cons_zero, List.setIfInBounds_toArray, List.set_cons_zero, List.set_cons_succ])
          refine wpAnyG_take 2 (v := ?_) rfl (by kernel_rfl) (by kernel_rfl) (by kernel_rfl) (by kernel_rfl) (by rfl) (by kernel_rfl) (fun _ _ _ h => h) (by rfl) (fun w' hw' => ?_) gS ?_
          rotate_left
          focus (have hh := HS.out _ hw'; go_split_ands; go_simp; (try with_reducible rfl); done)
          (try simp only [Act.put, List.getElem_toArray, List.getElem_cons_succ, List.getElem_cons_zero, List.setIfInBounds_toArray, List.set_cons_zero, List.set_cons_succ])
          refine wpAnyG_take 3 (v := ?_) rfl (by kernel_rfl) (by kernel_rfl) (by kernel_rfl) (by kernel_rfl) (by rfl) (by kernel_rfl) (fun _ _ _ h => h) (by rfl) (fun w' hw' => ?_) gS ?_
          rotate_left
          focus (go_simp; (try with_reducible rfl); done)
          (try simp only [Act.put, List.getElem_toArray, List.getElem_cons_succ, List.getElem_cons_zero, List.setIfInBounds_toArray, List.set_cons_zero, List.set_cons_succ])
          refine wpAnyG_take 4 (v := ?_) rfl (by kernel_rfl) (by kernel_rfl) (by kernel_rfl) (by kernel_rfl) (by rfl) (by kernel_rfl) (fun _ _ _ h => h) (by rfl) (fun w' hw' => ?_) gS ?_
          rotate_left
          focus (go_simp; (try with_reducible rfl); done)
          (try simp only [Act.put, List.getElem_toArray, List.getElem_cons_succ, List.getElem_cons_zero, List.setIfInBounds_toArray, List.set_cons_zero, List.set_cons_succ])
          have gR := gS
          obtain ⟨r0, r1, r2, g0, g1, g2⟩ := HF.out _ hx
          refine wpAnyG_one 5 (by kernel_rfl) rfl (by rfl) (fun K hK => ?_)
          go_simp
          refine hK.out _ _ (fun h => absurd h (by decide)) ?_
          clear hK K
          (try simp only [Act.put, List.getElem_toArray, List.getElem_cons_succ, List.getElem_cons_zero, List.setIfInBounds_toArray, List.set_cons_zero, List.set_cons_succ])
          refine wpAnyG_done (by kernel_rfl) ?_ _
          go_wp2
          obtain ⟨q0, q1, q2⟩ := set3 r0 r1 r2 (.bool cc) (.slice MA mk ml) (.slice MA' mk' ml')
          have hR0 := HF.out _ hx
          have hw0 : w.heap.size < wr.heap.size := hR0.lt
          have hfar : ∀ (x : Value) (ys : List Nat), U32s wr x ys → Far x (bxV w.heap.size) := fun x ys hu => box_far hR0 ⟨_, _, _, rfl⟩ ⟨_, _, _, rfl⟩ (HE3.out _ hx) hu
          have hVR : (Value.slice AV n cV).ownBlock ≠ some w.heap.size := fun e => by have := (HM.out.lt (.inl e)).1; omega
          have hUR : ∀ u ∈ us, u.ownBlock ≠ some w.heap.size := fun u hu e => by have := (HM.out.lt (.inr ⟨u, hu, e⟩)).1; omega
          have hME := ((HM.out.addbox hfar hw0).boxW2 (fun u hu => List.mem_cons_of_mem _ (List.mem_cons_of_mem _ hu)) ⟨hVR, hUR⟩ hw0 (.bool cc) (.slice MA mk ml) (.slice MA' mk' ml')).mat
          have hLE := IntsV.of_own (HLV.out.kept (box_grown wr w.heap.size (.bool cc) (.slice MA mk ml) (.slice MA' mk' ml')) (.inr fun e => by have := (HLV.out.lt _ e).1; omega))
          have hDE := vM.kept (v := bxV w.heap.size) (box_grown wr w.heap.size (.bool cc) (.slice MA mk ml) (.slice MA' mk' ml')) (hfar _ _ vM.2.1) (hfar _ _ vM.2.2)
          have hXE := ext_put (HE.out.trans hx) (b := w.heap.size) (Nat.le_refl _) (.bool cc) (.slice MA mk ml) (.slice MA' mk' ml')
          refine bodyPost_ret (v := .tuple #[.slice AV n cV, .slice AL (rrefs M n C).leads.length cL, .agg #[.bool cc, .slice MA mk ml, .slice MA' mk' ml']]) (by simp [results, Try.results43, go_sem, q0, q1, q2]) rfl ?_
          exact ⟨_, _, _, _, _, _, _, _, _, _, _, rfl, hME.below (ext_drew (Below.refl _ _)), hLE.below (ext_drew (Below.refl _ _)), hDE.below (ext_drew (Below.refl _ _)), ext_drew hXE⟩

end Go.Proofs.Ytmfigiifflljpaa
