/- law: MetalMixes. -/
import Derived.Test.YtmfigiifflljpaaMetV
import Derived.Test.YtmfigiifflljpaaMetJ
import Derived.Test.YtmfigiifflljpaaMetQ
set_option linter.unusedVariables false
set_option linter.unusedSimpArgs false
set_option maxRecDepth 100000
namespace Go.Proofs.Ytmfigiifflljpaa
open Go.RowKit Num

/-- A box of a number that came in. -/
def BxV (w W : World) (b : Nat) (P : Rat → Prop) : Prop := ∃ c A k l A' k' l' q, FBox W b (.bool c) (.slice A k l) (.slice A' k' l') ∧ AnyF w c (.slice A k l) (.slice A' k' l') q 3 ∧ P q
theorem BxV.ext {w W W' : World} {b : Nat} {P : Rat → Prop} (h : BxV w W b P) (hE : Ext W W') : BxV w W' b P := by
  obtain ⟨c, A, k, l, A', k', l', q, h1, h2, h3⟩ := h
  exact ⟨c, A, k, l, A', k', l', q, h1.below hE, h2, h3⟩
theorem BxV.imp {w W : World} {b : Nat} {P Q : Rat → Prop} (h : BxV w W b P) (hp : ∀ q, P q → Q q) : BxV w W b Q := by
  obtain ⟨c, A, k, l, A', k', l', q, h1, h2, h3⟩ := h
  exact ⟨c, A, k, l, A', k', l', q, h1, h2, hp q h3⟩
theorem mix_ge {x g : Nat → Rat} {n : Nat} {lo : Rat} (h : ∀ i, i < n → lo ≤ x i) (hg : ∀ i, i < n → 0 ≤ g i) (h1 : sm g n = 1) : lo ≤ dotR x g n := by
  have h2 : sm (fun i => lo * g i) n ≤ dotR x g n := sm_le fun i hi => Rat.mul_le_mul_of_nonneg_right (h i hi) (hg i hi)
  rw [sm_mul, h1] at h2
  grind
theorem mix_le {x g : Nat → Rat} {n : Nat} {hi : Rat} (h : ∀ i, i < n → x i ≤ hi) (hg : ∀ i, i < n → 0 ≤ g i) (h1 : sm g n = 1) : dotR x g n ≤ hi := by
  have h2 : dotR x g n ≤ sm (fun i => hi * g i) n := sm_le fun i hi' => Rat.mul_le_mul_of_nonneg_right (h i hi') (hg i hi')
  rw [sm_mul, h1] at h2
  grind
theorem mix_cases {g : Nat → Rat} {n C : Nat} : mixE g n ≠ 0 ∨ (mixE g n = 0 ∧ mixN g n C = C ∧ (∀ i, i < n → 0 ≤ g i) ∧ sm g n = 1) := by
  by_cases h1 : ∃ i, i < n ∧ g i < 0
  · left
    unfold mixE
    rw [if_pos h1]
    decide
  · by_cases h2 : sm g n = 1
    · right
      unfold mixE mixN
      rw [if_neg h1, if_pos h2, if_neg (fun h => h.elim h1 (fun h => h h2))]
      refine ⟨rfl, rfl, fun i hi => ?_, h2⟩
      have h3 : ¬ g i < 0 := fun h => h1 ⟨i, hi, h⟩
      grind
    · left
      unfold mixE
      rw [if_neg h1, if_neg h2]
      decide
theorem mixN_le {g : Nat → Rat} {n C : Nat} : mixN g n C ≤ C := by
  unfold mixN
  split <;> omega
theorem cmp_lt {p q : Rat} : cmpQ p q < 0 ↔ p < q := by
  unfold cmpQ
  split
  · exact ⟨fun _ => ‹_›, fun _ => by decide⟩
  · split
    · exact ⟨fun h => absurd h (by decide), fun h => absurd h ‹_›⟩
    · exact ⟨fun h => absurd h (by decide), fun h => absurd h ‹_›⟩
theorem cmp_gt {p q : Rat} : 0 < cmpQ p q ↔ q < p := by
  unfold cmpQ
  split
  · rename_i h
    exact ⟨fun h => absurd h (by decide), fun h2 => by grind⟩
  · split
    · exact ⟨fun _ => ‹_›, fun _ => by decide⟩
    · exact ⟨fun h => absurd h (by decide), fun h => absurd h ‹_›⟩
theorem dot_fbm {f g : Nat → Rat} {n : Nat} (hf : ∀ k, k < n → FB (f k) 3) (hg : ∀ k, k < n → FB (g k) 3) (hn : n ≤ 4) : FB (dotR f g n) 40 :=
  (sm_fb (f := fun j => f j * g j) (L := 3 + 3) (n := n) fun j hj => FB.mul (hf j hj) (hg j hj) (by omega)).mono (by omega)
theorem step_new_lo {x : Nat → Rat} {i j : Nat} {lo : Rat} (h : ∀ j, j < i → lo ≤ x j) (hl : x i < lo) (hj : j < i + 1) : x i ≤ x j := by
  by_cases hji : j = i
  · rw [hji]; exact Rat.le_refl
  · have := h j (by omega); grind
theorem step_old_lo {x : Nat → Rat} {i j : Nat} {lo : Rat} (h : ∀ j, j < i → lo ≤ x j) (hl : ¬ x i < lo) (hj : j < i + 1) : lo ≤ x j := by
  by_cases hji : j = i
  · rw [hji]; grind
  · exact h j (by omega)
theorem step_new_hi {x : Nat → Rat} {i j : Nat} {hi : Rat} (h : ∀ j, j < i → x j ≤ hi) (hl : hi < x i) (hj : j < i + 1) : x j ≤ x i := by
  by_cases hji : j = i
  · rw [hji]; exact Rat.le_refl
  · have := h j (by omega); grind
theorem step_old_hi {x : Nat → Rat} {i j : Nat} {hi : Rat} (h : ∀ j, j < i → x j ≤ hi) (hl : ¬ hi < x i) (hj : j < i + 1) : x j ≤ hi := by
  by_cases hji : j = i
  · rw [hji]; grind
  · exact h j (by omega)
set_option maxHeartbeats 16000000 in
theorem law_MMixes {v u : Value} {z : Nat × (Nat → Nat) × (Nat → Nat → FracIn)} {z2 : Nat × (Nat → FracIn)} {w : World} (hv : InMat w v z.1 z.2.1 z.2.2) (hu : InFs w u z2.1 z2.2) :
    Calls Try.prog 10 #[v, u] w (fun e w' => e = .returned (.bool true) ∧ Ext w w') := by
  obtain ⟨n, len, F⟩ := z
  simp only at hv
  have HV := Lib.hid (fun (w' : World) (h : Ext w w') => hv.below h)
  have HFW := Lib.hid (fun (w' : World) (h : Ext w w') => rfew_l (hv.below h))
  have HLN := Lib.hid (fun (w' : World) (h : Ext w w') => (hv.below h).lens)
  obtain ⟨m, G⟩ := z2
  simp only at hu
  have HU := Lib.hid (fun (w' : World) (h : Ext w w') => hu.below h)
  have HSW := Lib.hid (fun (w' : World) (h : Ext w w') => rsmall_l (hu.below h))
  obtain ⟨A, cap, rfl, hc1, hc2⟩ := hv.form
  obtain ⟨A', cap', rfl, hc3, hc4'⟩ := hu.form
  clear hv hu
  by_cases hf : fewM n len F
  · by_cases hs2 : smallF m G
    · have HX := Lib.hid (fun (w' : World) (h : Ext w w') => ((HU.out w' h).efs hs2.2).1)
      have hfx := ((HU.out w (Below.refl _ _)).efs hs2.2).2
      obtain ⟨g, hg⟩ : ∃ g : Nat → Rat, g = fun k => fxQ (G k) := ⟨_, rfl⟩
      have hgk : ∀ k, fxQ (G k) = g k := fun k => (congrFun hg k).symm
      rw [← hg] at HX
      simp only [hgk] at hfx
      have HF := Lib.hid hf
      have HSF := Lib.hid hs2
      by_cases hok : validL (lensOf n len) ∧ m = n
      · obtain ⟨hvl, hm⟩ := hok
        subst hm
        obtain ⟨hn4, c, hc4, hz, hl, hs, hhd⟩ := few_valid hf hvl
        have HE := Lib.hid (fun (w' : World) (h : Ext w w') => ((HV.out w' h).emat hl hs).1)
        have hfb := ((HV.out w (Below.refl _ _)).emat hl hs).2
        obtain ⟨M, hM⟩ : ∃ M : Mx, M = fun i j => fxQ (F i j) := ⟨_, rfl⟩
        rw [← hM] at HE hfb
        have HFB := Lib.hid hfb
        have HSP := Lib.hid (fun (w' : World) (h : Ext w w') => mmix_ok (HE.out w' h) (HX.out w' h) hfb hfx (Nat.le_refl 3) (by omega) (by omega) (by omega) hz)
        have HSR := Lib.hid (fun (w' : World) (h : Ext w w') => rmix_ok (HE.out w' h) (HX.out w' h) hfb hfx (Nat.le_refl 3) (by omega) (by omega) (by omega) hz)
        have hcase := mix_cases (g := g) (n := m) (C := c)
        obtain ⟨sn, hsn⟩ : ∃ sn, sn = mixN g m c := ⟨_, rfl⟩
        obtain ⟨se, hse⟩ : ∃ se, se = mixE g m := ⟨_, rfl⟩
        rw [← hsn, ← hse] at HSP HSR hcase
        obtain ⟨fs, hfs⟩ : ∃ fs : Nat → Rat, fs = fun c => dotR (fun i => M i c) g m := ⟨_, rfl⟩
        rw [← hfs] at HSP HSR
        have hsnl : sn ≤ c := by rw [hsn]; exact mixN_le
        have hss : (se != se) = false := by simp
        have hss2 : (se == se) = true := by simp
        rcases hcase with hne | ⟨h0, hN, hpos, hone⟩
        · have hne1 : (se != 0) = true := by rw [bne_iff_ne]; exact hne
          have hne2 : ¬ (se = 0) := hne
          clear hf hs2 hvl hl hs hz hfb hfx hM hg hgk hhd hsn hse hfs
          go_enter Try.func10, Try.ntmps10
          go_wp2_with (first
                  | (go_at_call 12; (with_reducible refine (HFW.out _ x1).mono ?_); rintro e w2 hgb; obtain ⟨rfl, x2⟩ := hgb.t HF.out)
                  | (go_at_call 23; (with_reducible refine (HSW.out _ (x1.trans x2)).mono ?_); rintro e w3 hgb; obtain ⟨rfl, x3⟩ := hgb.t HSF.out)
                  | (go_at_call 38; (with_reducible refine (HSP.out _ ((x1.trans x2).trans x3)).mono ?_); rintro e w4 ⟨A4, c4, rfl, h4, x4⟩)
                  | (go_at_call 39; (with_reducible refine (HSR.out _ (((x1.trans x2).trans x3).trans x4)).mono ?_); rintro e w5 ⟨A5, c5, rfl, h5, x5⟩)
                  | (go_at_call 26; (with_reducible refine (efracs_same (h4.below (x5.trans x6)) (h5.below x6) (fun _ _ => rfl)).mono ?_); rintro e w7 ⟨rfl, x7⟩; have y7 := x6.trans x7)
                  | (go_at_call 26; (with_reducible refine (efracs_same (h4.below x5) (h5) (fun _ _ => rfl)).mono ?_); rintro e w6 ⟨rfl, x6⟩)
                  | (go_at_call 11; (with_reducible refine awake_t.mono ?_); rintro e w1 ⟨rfl, x1⟩))
          go_ret
          exact ⟨by first | rfl | simp, ((x1.trans x2).trans x3).trans ((x4.trans x5).trans y7)⟩
        · subst h0
          subst hN
          have HFS := Lib.hid (fun k (hk : k < sn) => show FB (fs k) 40 from by rw [hfs]; exact dot_fbm (fun i hi => hfb i k hi hk) hfx hn4)
          have HGE := Lib.hid (fun k lo (h : ∀ i, i < m → lo ≤ M i k) => show lo ≤ fs k from by rw [hfs]; exact mix_ge h hpos hone)
          have HLE := Lib.hid (fun k hi (h : ∀ i, i < m → M i k ≤ hi) => show fs k ≤ hi from by rw [hfs]; exact mix_le h hpos hone)
          have HZ := Lib.hid hz
          clear hf hs2 hvl hl hs hz hfb hfx hM hg hgk hhd hsn hse hfs hpos hone
          go_enter Try.func10, Try.ntmps10
          go_upto_region 7 with (first
            | (go_at_call 12; (with_reducible refine (HFW.out _ x1).mono ?_); rintro e w2 hgb; obtain ⟨rfl, x2⟩ := hgb.t HF.out)
            | (go_at_call 23; (with_reducible refine (HSW.out _ (x1.trans x2)).mono ?_); rintro e w3 hgb; obtain ⟨rfl, x3⟩ := hgb.t HSF.out)
            | (go_at_call 38; (with_reducible refine (HSP.out _ ((x1.trans x2).trans x3)).mono ?_); rintro e w4 ⟨A4, c4, rfl, h4, x4⟩)
            | (go_at_call 39; (with_reducible refine (HSR.out _ (((x1.trans x2).trans x3).trans x4)).mono ?_); rintro e w5 ⟨A5, c5, rfl, h5, x5⟩)
            | (go_at_call 26; (with_reducible refine (efracs_same (h4.below x5) (h5) (fun _ _ => rfl)).mono ?_); rintro e w6 ⟨rfl, x6⟩)
            | (go_at_call 11; (with_reducible refine awake_t.mono ?_); rintro e w1 ⟨rfl, x1⟩))
          have X6 : Ext w w6 := ((x1.trans x2).trans x3).trans ((x4.trans x5).trans x6)
          have HP := Lib.hid (fun (w' : World) (h : Ext w6 w') => h4.below ((x5.trans x6).trans h))
          clear h4 h5 x1 x2 x3 x4 x5 x6 hgb
          go_wp2
          go_loopw [9] (fun iv wr => ∃ k : Nat, k ≤ sn ∧ iv = .int .i64 k ∧ Ext w6 wr) (fun iv _ => sn - (intOf iv).toNat)
          case atStart => exact ⟨0, Nat.zero_le _, rfl, Below.refl _ _⟩
          case round =>
            obtain ⟨k, hk, rfl, hy⟩ := hrel
            by_cases hcs : k < sn
            · have hm0 : 0 < m := Nat.pos_of_ne_zero fun h => by have := HZ.out h; omega
              have hk1 : (0 : Int) ≤ (k : Int) := by omega
              have hk2 : (k : Int) < (sn : Int) := by omega
              have hm1 : (0 : Int) < (m : Int) := by omega
              obtain ⟨ba, oa, A1, cp1, rfl, hba, hca, hrow⟩ := (HE.out w (Below.refl _ _)).at_ (k := 0) hm0
              rw [Nat.add_zero] at hca
              obtain ⟨bb, ob, ng, D1, p1, d1, D2, p2, d2, rfl, hbb, e0, e1, e2, he⟩ := hrow.at_ hcs
              have XW : Ext w wr := X6.trans hy
              have HA0 := Lib.hid (he.any (HFB.out 0 k hm0 hcs) (Nat.le_refl 3) (by omega))
              have HS := Lib.hid (fun (w' : World) (h : Ext wr w') => (⟨((XW.trans h).cell (p := ⟨ba, oa, none⟩) hba).trans hca, ((XW.trans h).cell (p := ⟨bb, ob + k * 3, none⟩) hbb).trans e0, ((XW.trans h).cell (p := ⟨bb, ob + k * 3 + 1, none⟩) hbb).trans e1, ((XW.trans h).cell (p := ⟨bb, ob + k * 3 + 2, none⟩) hbb).trans e2⟩ : w'.cell? ⟨ba, oa, none⟩ = some (.slice (some ⟨bb, ob, none⟩) sn cp1) ∧ w'.cell? ⟨bb, ob + k * 3, none⟩ = some (.bool ng) ∧ w'.cell? ⟨bb, ob + k * 3 + 1, none⟩ = some (.slice D1 p1 d1) ∧ w'.cell? ⟨bb, ob + k * 3 + 2, none⟩ = some (.slice D2 p2 d2)))
              clear he e0 e1 e2 hca hrow
              obtain ⟨wo, hwo⟩ : ∃ wo, wo = wr := ⟨_, rfl⟩
              subst hwo
              go_upto_region 10 with (fail)
              go_cut [10, 11] (fun pv qv wx => ∃ G1 G2, pv = .pointer (some ⟨G1, 0, none⟩) ∧ qv = .pointer (some ⟨G2, 0, none⟩) ∧ (wo.heap.size ≤ G1 ∧ wo.heap.size ≤ G2 ∧ G1 ≠ G2) ∧ Hid (BxV w wx G1 (fun q => ∀ i, i < 0 → q ≤ M i k)) ∧ Hid (BxV w wx G2 (fun q => ∀ i, i < 0 → M i k ≤ q)) ∧ Ext wo wx)
              case first =>
                refine wp_region_G (fun w' => Ext wo w') [15] (by kernel_rfl) ?_
                have gS : Ext wo wo.drew := (Below.refl _ _).drew
                refine wpAnyG_take 0 (v := ?_) rfl (by kernel_rfl) (by kernel_rfl) (by kernel_rfl) (by kernel_rfl) (by rfl) (by kernel_rfl) (fun _ _ _ h => h) (by rfl) (fun w' hw' => ?_) gS ?_
                rotate_left
                focus (go_simp; (try with_reducible rfl); done)
                (try simp only [Act.put, List.getElem_toArray, List.getElem_cons_succ, List.getElem_cons_zero, List.setIfInBounds_toArray, List.set_cons_zero, List.set_cons_succ])
                refine wpAnyG_take 1 (v := ?_) rfl (by kernel_rfl) (by kernel_rfl) (by kernel_rfl) (by kernel_rfl) (by rfl) (by kernel_rfl) (fun _ _ _ h => h) (by rfl) (fun w' hw' => ?_) gS ?_
                rotate_left
                focus (go_simp; (try with_reducible rfl); done)
                (try simp only [Act.put, List.getElem_toArray, List.getElem_cons_succ, List.getElem_cons_zero, List.setIfInBounds_toArray, List.set_cons_zero, List.set_cons_succ])
                refine wpAnyG_take 2 (v := ?_) rfl (by kernel_rfl) (by kernel_rfl) (by kernel_rfl) (by kernel_rfl) (by rfl) (by kernel_rfl) (fun _ _ _ h => h) (by rfl) (fun w' hw' => ?_) gS ?_
                rotate_left
                focus (have hh := HS.out _ hw'; go_split_ands; go_simp; (try with_reducible rfl); done)
                (try simp only [Act.put, List.getElem_toArray, List.getElem_cons_succ, List.getElem_cons_zero, List.setIfInBounds_toArray, List.set_cons_zero, List.set_cons_succ])
                refine wpAnyG_take 3 (v := ?_) rfl (by kernel_rfl) (by kernel_rfl) (by kernel_rfl) (by kernel_rfl) (by rfl) (by kernel_rfl) (fun _ _ _ h => h) (by rfl) (fun w' hw' => ?_) gS ?_
                rotate_left
                focus (go_simp; (try with_reducible rfl); done)
                (try simp only [Act.put, List.getElem_toArray, List.getElem_cons_succ, List.getElem_cons_zero, List.setIfInBounds_toArray, List.set_cons_zero, List.set_cons_succ])
                refine wpAnyG_take 4 (v := ?_) rfl (by kernel_rfl) (by kernel_rfl) (by kernel_rfl) (by kernel_rfl) (by rfl) (by kernel_rfl) (fun _ _ _ h => h) (by rfl) (fun w' hw' => ?_) gS ?_
                rotate_left
                focus (go_simp; (try with_reducible rfl); done)
                (try simp only [Act.put, List.getElem_toArray, List.getElem_cons_succ, List.getElem_cons_zero, List.setIfInBounds_toArray, List.set_cons_zero, List.set_cons_succ])
                refine wpAnyG_take 5 (v := ?_) rfl (by kernel_rfl) (by kernel_rfl) (by kernel_rfl) (by kernel_rfl) (by rfl) (by kernel_rfl) (fun _ _ _ h => h) (by rfl) (fun w' hw' => ?_) gS ?_
                rotate_left
                focus (have hh := HS.out _ hw'; go_split_ands; go_simp; (try with_reducible rfl); done)
                (try simp only [Act.put, List.getElem_toArray, List.getElem_cons_succ, List.getElem_cons_zero, List.setIfInBounds_toArray, List.set_cons_zero, List.set_cons_succ])
                refine wpAnyG_take 6 (v := ?_) rfl (by kernel_rfl) (by kernel_rfl) (by kernel_rfl) (by kernel_rfl) (by rfl) (by kernel_rfl) (fun _ _ _ h => h) (by rfl) (fun w' hw' => ?_) gS ?_
                rotate_left
                focus (go_simp; (try with_reducible rfl); done)
                (try simp only [Act.put, List.getElem_toArray, List.getElem_cons_succ, List.getElem_cons_zero, List.setIfInBounds_toArray, List.set_cons_zero, List.set_cons_succ])
                refine wpAnyG_take 7 (v := ?_) rfl (by kernel_rfl) (by kernel_rfl) (by kernel_rfl) (by kernel_rfl) (by rfl) (by kernel_rfl) (fun _ _ _ h => h) (by rfl) (fun w' hw' => ?_) gS ?_
                rotate_left
                focus (go_simp; (try with_reducible rfl); done)
                (try simp only [Act.put, List.getElem_toArray, List.getElem_cons_succ, List.getElem_cons_zero, List.setIfInBounds_toArray, List.set_cons_zero, List.set_cons_succ])
                refine wpAnyG_take 8 (v := ?_) rfl (by kernel_rfl) (by kernel_rfl) (by kernel_rfl) (by kernel_rfl) (by rfl) (by kernel_rfl) (fun _ _ _ h => h) (by rfl) (fun w' hw' => ?_) gS ?_
                rotate_left
                focus (have hh := HS.out _ hw'; go_split_ands; go_simp; (try with_reducible rfl); done)
                (try simp only [Act.put, List.getElem_toArray, List.getElem_cons_succ, List.getElem_cons_zero, List.setIfInBounds_toArray, List.set_cons_zero, List.set_cons_succ])
                refine wpAnyG_take 9 (v := ?_) rfl (by kernel_rfl) (by kernel_rfl) (by kernel_rfl) (by kernel_rfl) (by rfl) (by kernel_rfl) (fun _ _ _ h => h) (by rfl) (fun w' hw' => ?_) gS ?_
                rotate_left
                focus (go_simp; (try with_reducible rfl); done)
                (try simp only [Act.put, List.getElem_toArray, List.getElem_cons_succ, List.getElem_cons_zero, List.setIfInBounds_toArray, List.set_cons_zero, List.set_cons_succ])
                refine wpAnyG_take 10 (v := ?_) rfl (by kernel_rfl) (by kernel_rfl) (by kernel_rfl) (by kernel_rfl) (by rfl) (by kernel_rfl) (fun _ _ _ h => h) (by rfl) (fun w' hw' => ?_) gS ?_
                rotate_left
                focus (go_simp; (try with_reducible rfl); done)
                (try simp only [Act.put, List.getElem_toArray, List.getElem_cons_succ, List.getElem_cons_zero, List.setIfInBounds_toArray, List.set_cons_zero, List.set_cons_succ])
                refine wpAnyG_take 11 (v := ?_) rfl (by kernel_rfl) (by kernel_rfl) (by kernel_rfl) (by kernel_rfl) (by rfl) (by kernel_rfl) (fun _ _ _ h => h) (by rfl) (fun w' hw' => ?_) gS ?_
                rotate_left
                focus (have hh := HS.out _ hw'; go_split_ands; go_simp; (try with_reducible rfl); done)
                (try simp only [Act.put, List.getElem_toArray, List.getElem_cons_succ, List.getElem_cons_zero, List.setIfInBounds_toArray, List.set_cons_zero, List.set_cons_succ])
                refine wpAnyG_two 12 13 (by kernel_rfl) rfl rfl (by rfl) (by rfl) (fun K hK => ?_) (fun K hK => ?_)
                · (try simp only [List.getElem_toArray, List.getElem_cons_succ, List.getElem_cons_zero])
                  go_simp
                  have hBP : FBox (wo.alloc (.cells #[.bool false, .slice none 0 0, .slice none 0 0] 34)).drew wo.heap.size (.bool false) (.slice none 0 0) (.slice none 0 0) := FBox.new wo (.bool false) (.slice none 0 0) (.slice none 0 0) 34
                  have gS : Ext wo (wo.alloc (.cells #[.bool false, .slice none 0 0, .slice none 0 0] 34)).drew := (ext_alloc (Below.refl _ _) _).drew
                  generalize (wo.alloc (.cells #[.bool false, .slice none 0 0, .slice none 0 0] 34)).drew = s1 at *
                  have hlA := hBP.lt
                  (try go_wp2_with fail)
                  refine hK.out _ _ (fun _ => gS) ?_
                  clear hK K
                  (try simp only [Act.put, List.getElem_toArray, List.getElem_cons_succ, List.getElem_cons_zero, List.setIfInBounds_toArray, List.set_cons_zero, List.set_cons_succ])
                  refine wpAnyG_one 13 (by kernel_rfl) rfl (by rfl) (fun K hK => ?_)
                  (try simp only [List.getElem_toArray, List.getElem_cons_succ, List.getElem_cons_zero])
                  go_simp
                  have hBQ := FBox.new s1 (.bool false) (.slice none 0 0) (.slice none 0 0) 34
                  have xx : Ext s1 (s1.alloc (.cells #[.bool false, .slice none 0 0, .slice none 0 0] 34)) := ext_alloc (Below.refl _ _) _
                  have hBP := hBP.below xx
                  obtain ⟨E2, hE2⟩ : ∃ E2, E2 = s1.heap.size := ⟨_, rfl⟩
                  rw [← hE2] at hBQ ⊢
                  have hE3 : wo.heap.size < E2 := by omega
                  clear hE2
                  have gS : Ext wo (s1.alloc (.cells #[.bool false, .slice none 0 0, .slice none 0 0] 34)) := gS.trans xx
                  generalize s1.alloc (.cells #[.bool false, .slice none 0 0, .slice none 0 0] 34) = s2 at *
                  (try go_wp2_with fail)
                  refine hK.out _ _ (fun _ => gS) ?_
                  clear hK K
                  (try simp only [Act.put, List.getElem_toArray, List.getElem_cons_succ, List.getElem_cons_zero, List.setIfInBounds_toArray, List.set_cons_zero, List.set_cons_succ])
                  have hB0 := hBP
                  obtain ⟨m0, m1, m2, gm0, gm1, gm2⟩ := hB0
                  refine wpAnyG_one 14 (by kernel_rfl) rfl (by rfl) (fun K hK => ?_)
                  (try simp only [List.getElem_toArray, List.getElem_cons_succ, List.getElem_cons_zero])
                  go_simp
                  have hBP2 := hBP.put (.bool ng) (.slice D1 p1 d1) (.slice D2 p2 d2)
                  have hBQ2 := hBQ.away (b' := wo.heap.size) (by omega) (.bool ng) (.slice D1 p1 d1) (.slice D2 p2 d2)
                  have gS := ext_put gS (b := wo.heap.size) (Nat.le_refl _) (.bool ng) (.slice D1 p1 d1) (.slice D2 p2 d2)
                  (try go_wp2_with fail)
                  refine hK.out _ _ (fun _ => gS) ?_
                  clear hK K
                  (try simp only [Act.put, List.getElem_toArray, List.getElem_cons_succ, List.getElem_cons_zero, List.setIfInBounds_toArray, List.set_cons_zero, List.set_cons_succ])
                  have hB0 := hBQ2
                  obtain ⟨m0, m1, m2, gm0, gm1, gm2⟩ := hB0
                  refine wpAnyG_one 15 (by kernel_rfl) rfl (by rfl) (fun K hK => ?_)
                  (try simp only [List.getElem_toArray, List.getElem_cons_succ, List.getElem_cons_zero])
                  go_simp
                  refine hK.out _ _ (fun h => absurd h (by decide)) ?_
                  clear hK K
                  (try simp only [Act.put, List.getElem_toArray, List.getElem_cons_succ, List.getElem_cons_zero, List.setIfInBounds_toArray, List.set_cons_zero, List.set_cons_succ])
                  refine wpAnyG_done (by kernel_rfl) ?_ _
                  go_wp2
                  go_meet
                  have hrel0 : ∀ (P : Rat → Prop), P (M 0 k) → True := fun _ _ => trivial
                  exact ⟨wo.heap.size, E2, rfl, rfl, ⟨by omega, by omega, by omega⟩, Lib.hid ⟨ng, D1, p1, d1, D2, p2, d2, M 0 k, (hBP2.away (b' := E2) (by omega) (.bool ng) (.slice D1 p1 d1) (.slice D2 p2 d2)), HA0.out, fun i hi => by omega⟩, Lib.hid ⟨ng, D1, p1, d1, D2, p2, d2, M 0 k, (hBQ2.put (.bool ng) (.slice D1 p1 d1) (.slice D2 p2 d2)), HA0.out, fun i hi => by omega⟩, ext_put gS (by omega) (.bool ng) (.slice D1 p1 d1) (.slice D2 p2 d2)⟩
                · (try simp only [List.getElem_toArray, List.getElem_cons_succ, List.getElem_cons_zero])
                  go_simp
                  have hBQ : FBox (wo.alloc (.cells #[.bool false, .slice none 0 0, .slice none 0 0] 34)).drew wo.heap.size (.bool false) (.slice none 0 0) (.slice none 0 0) := FBox.new wo (.bool false) (.slice none 0 0) (.slice none 0 0) 34
                  have gS : Ext wo (wo.alloc (.cells #[.bool false, .slice none 0 0, .slice none 0 0] 34)).drew := (ext_alloc (Below.refl _ _) _).drew
                  generalize (wo.alloc (.cells #[.bool false, .slice none 0 0, .slice none 0 0] 34)).drew = s1 at *
                  have hlA := hBQ.lt
                  (try go_wp2_with fail)
                  refine hK.out _ _ (fun _ => gS) ?_
                  clear hK K
                  (try simp only [Act.put, List.getElem_toArray, List.getElem_cons_succ, List.getElem_cons_zero, List.setIfInBounds_toArray, List.set_cons_zero, List.set_cons_succ])
                  refine wpAnyG_one 12 (by kernel_rfl) rfl (by rfl) (fun K hK => ?_)
                  (try simp only [List.getElem_toArray, List.getElem_cons_succ, List.getElem_cons_zero])
                  go_simp
                  have hBP := FBox.new s1 (.bool false) (.slice none 0 0) (.slice none 0 0) 34
                  have xx : Ext s1 (s1.alloc (.cells #[.bool false, .slice none 0 0, .slice none 0 0] 34)) := ext_alloc (Below.refl _ _) _
                  have hBQ := hBQ.below xx
                  obtain ⟨E2, hE2⟩ : ∃ E2, E2 = s1.heap.size := ⟨_, rfl⟩
                  rw [← hE2] at hBP ⊢
                  have hE3 : wo.heap.size < E2 := by omega
                  clear hE2
                  have gS : Ext wo (s1.alloc (.cells #[.bool false, .slice none 0 0, .slice none 0 0] 34)) := gS.trans xx
                  generalize s1.alloc (.cells #[.bool false, .slice none 0 0, .slice none 0 0] 34) = s2 at *
                  (try go_wp2_with fail)
                  refine hK.out _ _ (fun _ => gS) ?_
                  clear hK K
                  (try simp only [Act.put, List.getElem_toArray, List.getElem_cons_succ, List.getElem_cons_zero, List.setIfInBounds_toArray, List.set_cons_zero, List.set_cons_succ])
                  have hB0 := hBP
                  obtain ⟨m0, m1, m2, gm0, gm1, gm2⟩ := hB0
                  refine wpAnyG_one 14 (by kernel_rfl) rfl (by rfl) (fun K hK => ?_)
                  (try simp only [List.getElem_toArray, List.getElem_cons_succ, List.getElem_cons_zero])
                  go_simp
                  have hBP2 := hBP.put (.bool ng) (.slice D1 p1 d1) (.slice D2 p2 d2)
                  have hBQ2 := hBQ.away (b' := E2) (by omega) (.bool ng) (.slice D1 p1 d1) (.slice D2 p2 d2)
                  have gS := ext_put gS (b := E2) (by omega) (.bool ng) (.slice D1 p1 d1) (.slice D2 p2 d2)
                  (try go_wp2_with fail)
                  refine hK.out _ _ (fun _ => gS) ?_
                  clear hK K
                  (try simp only [Act.put, List.getElem_toArray, List.getElem_cons_succ, List.getElem_cons_zero, List.setIfInBounds_toArray, List.set_cons_zero, List.set_cons_succ])
                  have hB0 := hBQ2
                  obtain ⟨m0, m1, m2, gm0, gm1, gm2⟩ := hB0
                  refine wpAnyG_one 15 (by kernel_rfl) rfl (by rfl) (fun K hK => ?_)
                  (try simp only [List.getElem_toArray, List.getElem_cons_succ, List.getElem_cons_zero])
                  go_simp
                  refine hK.out _ _ (fun h => absurd h (by decide)) ?_
                  clear hK K
                  (try simp only [Act.put, List.getElem_toArray, List.getElem_cons_succ, List.getElem_cons_zero, List.setIfInBounds_toArray, List.set_cons_zero, List.set_cons_succ])
                  refine wpAnyG_done (by kernel_rfl) ?_ _
                  go_wp2
                  go_meet
                  have hrel0 : ∀ (P : Rat → Prop), P (M 0 k) → True := fun _ _ => trivial
                  exact ⟨E2, wo.heap.size, rfl, rfl, ⟨by omega, by omega, by omega⟩, Lib.hid ⟨ng, D1, p1, d1, D2, p2, d2, M 0 k, (hBP2.away (b' := wo.heap.size) (by omega) (.bool ng) (.slice D1 p1 d1) (.slice D2 p2 d2)), HA0.out, fun i hi => by omega⟩, Lib.hid ⟨ng, D1, p1, d1, D2, p2, d2, M 0 k, (hBQ2.put (.bool ng) (.slice D1 p1 d1) (.slice D2 p2 d2)), HA0.out, fun i hi => by omega⟩, ext_put gS (Nat.le_refl _) (.bool ng) (.slice D1 p1 d1) (.slice D2 p2 d2)⟩
              case rest =>
                obtain ⟨G1, G2, rfl, rfl, ⟨hG1, hG2, hG12⟩, HB1, HB2, hyc⟩ := hcut
                have XC : Ext w wc := XW.trans hyc
                have hwG1 : w.heap.size ≤ G1 := by have := XW.size; omega
                have hwG2 : w.heap.size ≤ G2 := by have := XW.size; omega
                have h6G1 : w6.heap.size ≤ G1 := by have := hy.size; omega
                have h6G2 : w6.heap.size ≤ G2 := by have := hy.size; omega
                have Y6 : Ext w6 wc := hy.trans hyc
                clear HS HA0 XW hyc hy
                go_wp2
                go_loopw [12] (fun iv wr => ∃ i : Nat, i ≤ m ∧ iv = .int .i64 i ∧ Hid (BxV w wr G1 (fun q => ∀ j, j < i → q ≤ M j k)) ∧ Hid (BxV w wr G2 (fun q => ∀ j, j < i → M j k ≤ q)) ∧ Ext w6 wr) (fun iv _ => m - (intOf iv).toNat)
                case atStart => exact ⟨0, Nat.zero_le _, rfl, HB1, HB2, Y6⟩
                case round =>
                  clear HB1 HB2 Y6 XC
                  obtain ⟨i, hi, rfl, HB1, HB2, hy⟩ := hrel
                  by_cases him : i < m
                  · have hi1 : (0 : Int) ≤ (i : Int) := by omega
                    have hi2 : (i : Int) < (m : Int) := by omega
                    obtain ⟨ba, oa, A1, cp1, e9, hba, hca, hrow⟩ := (HE.out w (Below.refl _ _)).at_ (k := i) him
                    cases e9
                    obtain ⟨bb, ob, ng, D1, p1, d1, D2, p2, d2, rfl, hbb, e0, e1, e2, he⟩ := hrow.at_ hcs
                    have XW : Ext w wr := X6.trans hy
                    have ha := he.any (HFB.out i k him hcs) (Nat.le_refl 3) (by omega)
                    have HAI := Lib.hid ha
                    have HCI := Lib.hid (fun (w' : World) (h : Ext w w') => (⟨(h.cell (p := ⟨ba, oa + i, none⟩) hba).trans hca, (h.cell (p := ⟨bb, ob + k * 3, none⟩) hbb).trans e0, (h.cell (p := ⟨bb, ob + k * 3 + 1, none⟩) hbb).trans e1, (h.cell (p := ⟨bb, ob + k * 3 + 2, none⟩) hbb).trans e2⟩ : w'.cell? ⟨ba, oa + i, none⟩ = some (.slice (some ⟨bb, ob, none⟩) sn cp1) ∧ w'.cell? ⟨bb, ob + k * 3, none⟩ = some (.bool ng) ∧ w'.cell? ⟨bb, ob + k * 3 + 1, none⟩ = some (.slice D1 p1 d1) ∧ w'.cell? ⟨bb, ob + k * 3 + 2, none⟩ = some (.slice D2 p2 d2)))
                    clear he e0 e1 e2 hca hrow ha
                    obtain ⟨c1, B1, k1, l1, B1', k1', l1', lo, hb1, ha1, hq0⟩ := HB1.out
                    obtain ⟨c2, B2, k2, l2, B2', k2', l2', hh, hb2, ha2, hq2⟩ := HB2.out
                    have HLO := Lib.hid (fun (w' : World) (h : Ext wr w') => ha1.below (XW.trans h))
                    have HAJ := Lib.hid (fun (w' : World) (h : Ext wr w') => HAI.out.below (XW.trans h))
                    obtain ⟨z, hz⟩ : ∃ z, cmpQ (M i k) lo = z := ⟨_, rfl⟩
                    have HZ1 := Lib.hid hz
                    have HBX := Lib.hid hb1
                    have HBY := Lib.hid hb2
                    have HS := Lib.hid (fun (w' : World) (h : Ext wr w') => (⟨HCI.out w' (XW.trans h), (hb1.below h).1, (hb1.below h).2.1, (hb1.below h).2.2.1⟩ : (w'.cell? ⟨ba, oa + i, none⟩ = some (.slice (some ⟨bb, ob, none⟩) sn cp1) ∧ w'.cell? ⟨bb, ob + k * 3, none⟩ = some (.bool ng) ∧ w'.cell? ⟨bb, ob + k * 3 + 1, none⟩ = some (.slice D1 p1 d1) ∧ w'.cell? ⟨bb, ob + k * 3 + 2, none⟩ = some (.slice D2 p2 d2)) ∧ w'.cell? ⟨G1, 0, none⟩ = some (.bool c1) ∧ w'.cell? ⟨G1, 1, none⟩ = some (.slice B1 k1 l1) ∧ w'.cell? ⟨G1, 2, none⟩ = some (.slice B1' k1' l1')))
                    have HA2 := Lib.hid ha2
                    have HQ2 := Lib.hid hq2
                    have HA1 := Lib.hid ha1
                    have HQ0 := Lib.hid hq0
                    clear hb1 hb2 ha1 ha2 hq0 hq2 hz
                    go_upto_region 14 with (fail)
                    go_cut [92] (fun bv wx => bv = .bool (decide (z < 0)) ∧ Ext wr wx)
                    case first =>
                      refine wp_region_G (fun w' => Ext wr w') [9] (by kernel_rfl) ?_
                      have gS : Ext wr wr.drew := (Below.refl _ _).drew
                      refine wpAnyG_take 0 (v := ?_) rfl (by kernel_rfl) (by kernel_rfl) (by kernel_rfl) (by kernel_rfl) (by rfl) (by kernel_rfl) (fun _ _ _ h => h) (by rfl) (fun w' hw' => ?_) gS ?_
                      rotate_left
                      focus (go_simp; (try with_reducible rfl); done)
                      (try simp only [Act.put, List.getElem_toArray, List.getElem_cons_succ, List.getElem_cons_zero, List.setIfInBounds_toArray, List.set_cons_zero, List.set_cons_succ])
                      refine wpAnyG_take 1 (v := ?_) rfl (by kernel_rfl) (by kernel_rfl) (by kernel_rfl) (by kernel_rfl) (by rfl) (by kernel_rfl) (fun _ _ _ h => h) (by rfl) (fun w' hw' => ?_) gS ?_
                      rotate_left
                      focus (go_simp; (try with_reducible rfl); done)
                      (try simp only [Act.put, List.getElem_toArray, List.getElem_cons_succ, List.getElem_cons_zero, List.setIfInBounds_toArray, List.set_cons_zero, List.set_cons_succ])
                      refine wpAnyG_take 2 (v := ?_) rfl (by kernel_rfl) (by kernel_rfl) (by kernel_rfl) (by kernel_rfl) (by rfl) (by kernel_rfl) (fun _ _ _ h => h) (by rfl) (fun w' hw' => ?_) gS ?_
                      rotate_left
                      focus (go_simp; (try with_reducible rfl); done)
                      (try simp only [Act.put, List.getElem_toArray, List.getElem_cons_succ, List.getElem_cons_zero, List.setIfInBounds_toArray, List.set_cons_zero, List.set_cons_succ])
                      refine wpAnyG_take 3 (v := ?_) rfl (by kernel_rfl) (by kernel_rfl) (by kernel_rfl) (by kernel_rfl) (by rfl) (by kernel_rfl) (fun _ _ _ h => h) (by rfl) (fun w' hw' => ?_) gS ?_
                      rotate_left
                      focus (have hh := HS.out _ hw'; go_split_ands; go_simp; (try with_reducible rfl); done)
                      (try simp only [Act.put, List.getElem_toArray, List.getElem_cons_succ, List.getElem_cons_zero, List.setIfInBounds_toArray, List.set_cons_zero, List.set_cons_succ])
                      refine wpAnyG_take 4 (v := ?_) rfl (by kernel_rfl) (by kernel_rfl) (by kernel_rfl) (by kernel_rfl) (by rfl) (by kernel_rfl) (fun _ _ _ h => h) (by rfl) (fun w' hw' => ?_) gS ?_
                      rotate_left
                      focus (go_simp; (try with_reducible rfl); done)
                      (try simp only [Act.put, List.getElem_toArray, List.getElem_cons_succ, List.getElem_cons_zero, List.setIfInBounds_toArray, List.set_cons_zero, List.set_cons_succ])
                      refine wpAnyG_take 5 (v := ?_) rfl (by kernel_rfl) (by kernel_rfl) (by kernel_rfl) (by kernel_rfl) (by rfl) (by kernel_rfl) (fun _ _ _ h => h) (by rfl) (fun w' hw' => ?_) gS ?_
                      rotate_left
                      focus (go_simp; (try with_reducible rfl); done)
                      (try simp only [Act.put, List.getElem_toArray, List.getElem_cons_succ, List.getElem_cons_zero, List.setIfInBounds_toArray, List.set_cons_zero, List.set_cons_succ])
                      refine wpAnyG_take 6 (v := ?_) rfl (by kernel_rfl) (by kernel_rfl) (by kernel_rfl) (by kernel_rfl) (by rfl) (by kernel_rfl) (fun _ _ _ h => h) (by rfl) (fun w' hw' => ?_) gS ?_
                      rotate_left
                      focus (have hh := HS.out _ hw'; go_split_ands; go_simp; (try with_reducible rfl); done)
                      (try simp only [Act.put, List.getElem_toArray, List.getElem_cons_succ, List.getElem_cons_zero, List.setIfInBounds_toArray, List.set_cons_zero, List.set_cons_succ])
                      refine wpAnyG_take 7 (v := ?_) rfl (by kernel_rfl) (by kernel_rfl) (by kernel_rfl) (by kernel_rfl) (by rfl) (by kernel_rfl) (fun _ _ _ h => h) (by rfl) (fun w' hw' => ?_) gS ?_
                      rotate_left
                      focus (have hh := HS.out _ hw'; go_split_ands; go_simp; (try with_reducible rfl); done)
                      (try simp only [Act.put, List.getElem_toArray, List.getElem_cons_succ, List.getElem_cons_zero, List.setIfInBounds_toArray, List.set_cons_zero, List.set_cons_succ])
                      refine wpAnyG_one 8 (by kernel_rfl) rfl (by rfl) (fun K hK => ?_)
                      go_simp
                      go_at_call 28
                      refine (rcmp_e (HAJ.out _ gS) (HLO.out _ gS) (by omega) (by omega) (by omega) HZ1.out).mono ?_
                      rintro _ s8 ⟨rfl, x8⟩
                      have gS : Ext wr s8 := Ext.trans gS x8
                      have gR := gS
                      (try go_wp2_with fail)
                      refine hK.out _ _ (fun _ => gS) ?_
                      clear hK K
                      (try simp only [Act.put, List.getElem_toArray, List.getElem_cons_succ, List.getElem_cons_zero, List.setIfInBounds_toArray, List.set_cons_zero, List.set_cons_succ])
                      refine wpAnyG_one 9 (by kernel_rfl) rfl (by rfl) (fun K hK => ?_)
                      (try simp only [List.getElem_toArray, List.getElem_cons_succ, List.getElem_cons_zero])
                      go_simp
                      refine hK.out _ _ (fun h => absurd h (by decide)) ?_
                      clear hK K
                      (try simp only [Act.put, List.getElem_toArray, List.getElem_cons_succ, List.getElem_cons_zero, List.setIfInBounds_toArray, List.set_cons_zero, List.set_cons_succ])
                      refine wpAnyG_done (by kernel_rfl) ?_ _
                      go_wp2
                      go_meet
                      exact ⟨rfl, gR⟩
                    case rest =>
                    obtain ⟨rfl, hxc⟩ := hcut
                    obtain ⟨s5, hs5⟩ : ∃ s5, s5 = wc := ⟨_, rfl⟩
                    subst hs5
                    have XC : Ext w s5 := XW.trans hxc
                    go_upto_if 92 with (fail)
                    go_cut [] (fun wx => Hid (BxV w wx G1 (fun q => ∀ j, j < i + 1 → q ≤ M j k)) ∧ Hid (BxV w wx G2 (fun q => ∀ j, j < i → M j k ≤ q)) ∧ Ext w6 wx)
                    case first =>
                      by_cases hlt : z < 0
                      · have hqq := cmp_lt.1 (show cmpQ (M i k) lo < 0 from by rw [HZ1.out]; exact hlt)
                        obtain ⟨t0, t1, t2, t3⟩ := HCI.out _ XC
                        obtain ⟨m0, m1, m2, gm0, gm1, gm2⟩ := HBX.out.below hxc
                        go_wp2
                        go_meet
                        exact ⟨Lib.hid ⟨ng, D1, p1, d1, D2, p2, d2, M i k, (HBX.out.below hxc).put _ _ _, HAI.out, fun j hj => step_new_lo (x := fun j => M j k) HQ0.out hqq hj⟩, Lib.hid ⟨c2, B2, k2, l2, B2', k2', l2', hh, (HBY.out.below hxc).away (b' := G1) (by omega) _ _ _, HA2.out, HQ2.out⟩, ext_put (hy.trans hxc) (by omega) _ _ _⟩
                      · have hqq : ¬ (M i k < lo) := fun h => hlt (by rw [← HZ1.out]; exact cmp_lt.2 h)
                        go_wp2
                        go_meet
                        exact ⟨Lib.hid ⟨c1, B1, k1, l1, B1', k1', l1', lo, HBX.out.below hxc, HA1.out, fun j hj => step_old_lo (x := fun j => M j k) HQ0.out hqq hj⟩, Lib.hid ⟨c2, B2, k2, l2, B2', k2', l2', hh, HBY.out.below hxc, HA2.out, HQ2.out⟩, hy.trans hxc⟩
                    case rest =>
                    obtain ⟨HB1', HB2', hy'⟩ := hcut
                    obtain ⟨w9, hw9⟩ : ∃ w9, w9 = wc := ⟨_, rfl⟩
                    subst hw9
                    clear HB1 HB2 hy XW
                    have XW : Ext w w9 := X6.trans hy'
                    obtain ⟨c1, B1, k1, l1, B1', k1', l1', lo, hb1, ha1, hq0⟩ := HB2'.out
                    obtain ⟨c2, B2, k2, l2, B2', k2', l2', hh, hb2, ha2, hq2⟩ := HB1'.out
                    have HLO := Lib.hid (fun (w' : World) (h : Ext w9 w') => ha1.below (XW.trans h))
                    have HAJ := Lib.hid (fun (w' : World) (h : Ext w9 w') => HAI.out.below (XW.trans h))
                    obtain ⟨z, hz⟩ : ∃ z, cmpQ (M i k) lo = z := ⟨_, rfl⟩
                    have HZ1 := Lib.hid hz
                    have HBX := Lib.hid hb1
                    have HBY := Lib.hid hb2
                    have HS := Lib.hid (fun (w' : World) (h : Ext w9 w') => (⟨HCI.out w' (XW.trans h), (hb1.below h).1, (hb1.below h).2.1, (hb1.below h).2.2.1⟩ : (w'.cell? ⟨ba, oa + i, none⟩ = some (.slice (some ⟨bb, ob, none⟩) sn cp1) ∧ w'.cell? ⟨bb, ob + k * 3, none⟩ = some (.bool ng) ∧ w'.cell? ⟨bb, ob + k * 3 + 1, none⟩ = some (.slice D1 p1 d1) ∧ w'.cell? ⟨bb, ob + k * 3 + 2, none⟩ = some (.slice D2 p2 d2)) ∧ w'.cell? ⟨G2, 0, none⟩ = some (.bool c1) ∧ w'.cell? ⟨G2, 1, none⟩ = some (.slice B1 k1 l1) ∧ w'.cell? ⟨G2, 2, none⟩ = some (.slice B1' k1' l1')))
                    have HA2 := Lib.hid ha2
                    have HQ2 := Lib.hid hq2
                    have HA1 := Lib.hid ha1
                    have HQ0 := Lib.hid hq0
                    clear hb1 hb2 ha1 ha2 hq0 hq2 hz
                    go_upto_region 16 with (fail)
                    go_cut [109] (fun bv wx => bv = .bool (decide (0 < z)) ∧ Ext w9 wx)
                    case first =>
                      refine wp_region_G (fun w' => Ext w9 w') [9] (by kernel_rfl) ?_
                      have gS : Ext w9 w9.drew := (Below.refl _ _).drew
                      refine wpAnyG_take 0 (v := ?_) rfl (by kernel_rfl) (by kernel_rfl) (by kernel_rfl) (by kernel_rfl) (by rfl) (by kernel_rfl) (fun _ _ _ h => h) (by rfl) (fun w' hw' => ?_) gS ?_
                      rotate_left
                      focus (go_simp; (try with_reducible rfl); done)
                      (try simp only [Act.put, List.getElem_toArray, List.getElem_cons_succ, List.getElem_cons_zero, List.setIfInBounds_toArray, List.set_cons_zero, List.set_cons_succ])
                      refine wpAnyG_take 1 (v := ?_) rfl (by kernel_rfl) (by kernel_rfl) (by kernel_rfl) (by kernel_rfl) (by rfl) (by kernel_rfl) (fun _ _ _ h => h) (by rfl) (fun w' hw' => ?_) gS ?_
                      rotate_left
                      focus (go_simp; (try with_reducible rfl); done)
                      (try simp only [Act.put, List.getElem_toArray, List.getElem_cons_succ, List.getElem_cons_zero, List.setIfInBounds_toArray, List.set_cons_zero, List.set_cons_succ])
                      refine wpAnyG_take 2 (v := ?_) rfl (by kernel_rfl) (by kernel_rfl) (by kernel_rfl) (by kernel_rfl) (by rfl) (by kernel_rfl) (fun _ _ _ h => h) (by rfl) (fun w' hw' => ?_) gS ?_
                      rotate_left
                      focus (go_simp; (try with_reducible rfl); done)
                      (try simp only [Act.put, List.getElem_toArray, List.getElem_cons_succ, List.getElem_cons_zero, List.setIfInBounds_toArray, List.set_cons_zero, List.set_cons_succ])
                      refine wpAnyG_take 3 (v := ?_) rfl (by kernel_rfl) (by kernel_rfl) (by kernel_rfl) (by kernel_rfl) (by rfl) (by kernel_rfl) (fun _ _ _ h => h) (by rfl) (fun w' hw' => ?_) gS ?_
                      rotate_left
                      focus (have hh := HS.out _ hw'; go_split_ands; go_simp; (try with_reducible rfl); done)
                      (try simp only [Act.put, List.getElem_toArray, List.getElem_cons_succ, List.getElem_cons_zero, List.setIfInBounds_toArray, List.set_cons_zero, List.set_cons_succ])
                      refine wpAnyG_take 4 (v := ?_) rfl (by kernel_rfl) (by kernel_rfl) (by kernel_rfl) (by kernel_rfl) (by rfl) (by kernel_rfl) (fun _ _ _ h => h) (by rfl) (fun w' hw' => ?_) gS ?_
                      rotate_left
                      focus (go_simp; (try with_reducible rfl); done)
                      (try simp only [Act.put, List.getElem_toArray, List.getElem_cons_succ, List.getElem_cons_zero, List.setIfInBounds_toArray, List.set_cons_zero, List.set_cons_succ])
                      refine wpAnyG_take 5 (v := ?_) rfl (by kernel_rfl) (by kernel_rfl) (by kernel_rfl) (by kernel_rfl) (by rfl) (by kernel_rfl) (fun _ _ _ h => h) (by rfl) (fun w' hw' => ?_) gS ?_
                      rotate_left
                      focus (go_simp; (try with_reducible rfl); done)
                      (try simp only [Act.put, List.getElem_toArray, List.getElem_cons_succ, List.getElem_cons_zero, List.setIfInBounds_toArray, List.set_cons_zero, List.set_cons_succ])
                      refine wpAnyG_take 6 (v := ?_) rfl (by kernel_rfl) (by kernel_rfl) (by kernel_rfl) (by kernel_rfl) (by rfl) (by kernel_rfl) (fun _ _ _ h => h) (by rfl) (fun w' hw' => ?_) gS ?_
                      rotate_left
                      focus (have hh := HS.out _ hw'; go_split_ands; go_simp; (try with_reducible rfl); done)
                      (try simp only [Act.put, List.getElem_toArray, List.getElem_cons_succ, List.getElem_cons_zero, List.setIfInBounds_toArray, List.set_cons_zero, List.set_cons_succ])
                      refine wpAnyG_take 7 (v := ?_) rfl (by kernel_rfl) (by kernel_rfl) (by kernel_rfl) (by kernel_rfl) (by rfl) (by kernel_rfl) (fun _ _ _ h => h) (by rfl) (fun w' hw' => ?_) gS ?_
                      rotate_left
                      focus (have hh := HS.out _ hw'; go_split_ands; go_simp; (try with_reducible rfl); done)
                      (try simp only [Act.put, List.getElem_toArray, List.getElem_cons_succ, List.getElem_cons_zero, List.setIfInBounds_toArray, List.set_cons_zero, List.set_cons_succ])
                      refine wpAnyG_one 8 (by kernel_rfl) rfl (by rfl) (fun K hK => ?_)
                      go_simp
                      go_at_call 28
                      refine (rcmp_e (HAJ.out _ gS) (HLO.out _ gS) (by omega) (by omega) (by omega) HZ1.out).mono ?_
                      rintro _ s8 ⟨rfl, x8⟩
                      have gS : Ext w9 s8 := Ext.trans gS x8
                      have gR := gS
                      (try go_wp2_with fail)
                      refine hK.out _ _ (fun _ => gS) ?_
                      clear hK K
                      (try simp only [Act.put, List.getElem_toArray, List.getElem_cons_succ, List.getElem_cons_zero, List.setIfInBounds_toArray, List.set_cons_zero, List.set_cons_succ])
                      refine wpAnyG_one 9 (by kernel_rfl) rfl (by rfl) (fun K hK => ?_)
                      (try simp only [List.getElem_toArray, List.getElem_cons_succ, List.getElem_cons_zero])
                      go_simp
                      refine hK.out _ _ (fun h => absurd h (by decide)) ?_
                      clear hK K
                      (try simp only [Act.put, List.getElem_toArray, List.getElem_cons_succ, List.getElem_cons_zero, List.setIfInBounds_toArray, List.set_cons_zero, List.set_cons_succ])
                      refine wpAnyG_done (by kernel_rfl) ?_ _
                      go_wp2
                      go_meet
                      exact ⟨rfl, gR⟩
                    case rest =>
                    obtain ⟨rfl, hxc⟩ := hcut
                    obtain ⟨s5, hs5⟩ : ∃ s5, s5 = wc := ⟨_, rfl⟩
                    subst hs5
                    have XC : Ext w s5 := XW.trans hxc
                    by_cases hlt : 0 < z
                    · have hqq := cmp_gt.1 (show 0 < cmpQ (M i k) lo from by rw [HZ1.out]; exact hlt)
                      obtain ⟨t0, t1, t2, t3⟩ := HCI.out _ XC
                      obtain ⟨m0, m1, m2, gm0, gm1, gm2⟩ := HBX.out.below hxc
                      go_wp2
                      go_roundw
                      case rel => exact ⟨i + 1, by omega, by go_num, Lib.hid ⟨c2, B2, k2, l2, B2', k2', l2', hh, (HBY.out.below hxc).away (b' := G2) (by omega) _ _ _, HA2.out, HQ2.out⟩, Lib.hid ⟨ng, D1, p1, d1, D2, p2, d2, M i k, (HBX.out.below hxc).put _ _ _, HAI.out, fun j hj => step_new_hi (x := fun j => M j k) HQ0.out hqq hj⟩, ext_put (hy'.trans hxc) (by omega) _ _ _⟩
                      case measure => simp [intOf]; omega
                    · have hqq : ¬ (lo < M i k) := fun h => hlt (by rw [← HZ1.out]; exact cmp_gt.2 h)
                      go_wp2
                      go_roundw
                      case rel => exact ⟨i + 1, by omega, by go_num, Lib.hid ⟨c2, B2, k2, l2, B2', k2', l2', hh, HBY.out.below hxc, HA2.out, HQ2.out⟩, Lib.hid ⟨c1, B1, k1, l1, B1', k1', l1', lo, HBX.out.below hxc, HA1.out, fun j hj => step_old_hi (x := fun j => M j k) HQ0.out hqq hj⟩, hy'.trans hxc⟩
                      case measure => simp [intOf]; omega
                  · obtain rfl : m = i := by omega
                    have hii : ¬ ((m : Int) < (m : Int)) := by omega
                    obtain ⟨c1, A1, k1, l1, A1', k1', l1', lo, hb1, ha1, hlo⟩ := HB1.out
                    obtain ⟨c2, A2, k2, l2, A2', k2', l2', hh, hb2, ha2, hhi⟩ := HB2.out
                    have XW : Ext w wr := X6.trans hy
                    obtain ⟨b, o, ng, D1, p1, d1, D2, p2, d2, rfl, hb, e0, e1, e2, he⟩ := (HP.out _ hy).at_ hcs
                    have HLO := Lib.hid (fun (w' : World) (h : Ext wr w') => ha1.below (XW.trans h))
                    have HHI := Lib.hid (fun (w' : World) (h : Ext wr w') => ha2.below (XW.trans h))
                    have HEF := Lib.hid (fun (w' : World) (h : Ext wr w') => FracV.any (he.can.below h) (HFS.out k hcs) (by omega))
                    obtain ⟨z1, hz1⟩ : ∃ z, cmpQ (fs k) lo = z := ⟨_, rfl⟩
                    obtain ⟨z2, hz2⟩ : ∃ z, cmpQ (fs k) hh = z := ⟨_, rfl⟩
                    have hq1 : ¬ z1 < 0 := by rw [← hz1]; intro h; have h2 := cmp_lt.1 h; have h3 := HGE.out k lo hlo; grind
                    have hq2 : ¬ 0 < z2 := by rw [← hz2]; intro h; have h2 := cmp_gt.1 h; have h3 := HLE.out k hh hhi; grind
                    have hqd1 : decide (z1 < 0) = false := decide_eq_false hq1
                    have hqd2 : decide (0 < z2) = false := decide_eq_false hq2
                    clear hq1 hq2
                    have HZ1 := Lib.hid hz1
                    have HZ2 := Lib.hid hz2
                    have HS := Lib.hid (fun (w' : World) (h : Ext wr w') => (⟨⟨(h.cell (p := ⟨b, o + k * 3, none⟩) hb).trans e0, (h.cell (p := ⟨b, o + k * 3 + 1, none⟩) hb).trans e1, (h.cell (p := ⟨b, o + k * 3 + 2, none⟩) hb).trans e2⟩, ⟨(hb1.below h).1, (hb1.below h).2.1, (hb1.below h).2.2.1⟩, (hb2.below h).1, (hb2.below h).2.1, (hb2.below h).2.2.1⟩ : (w'.cell? ⟨b, o + k * 3, none⟩ = some (.bool ng) ∧ w'.cell? ⟨b, o + k * 3 + 1, none⟩ = some (.slice D1 p1 d1) ∧ w'.cell? ⟨b, o + k * 3 + 2, none⟩ = some (.slice D2 p2 d2)) ∧ (w'.cell? ⟨G1, 0, none⟩ = some (.bool c1) ∧ w'.cell? ⟨G1, 1, none⟩ = some (.slice A1 k1 l1) ∧ w'.cell? ⟨G1, 2, none⟩ = some (.slice A1' k1' l1')) ∧ w'.cell? ⟨G2, 0, none⟩ = some (.bool c2) ∧ w'.cell? ⟨G2, 1, none⟩ = some (.slice A2 k2 l2) ∧ w'.cell? ⟨G2, 2, none⟩ = some (.slice A2' k2' l2')))
                    clear he e0 e1 e2 hb1 hb2 ha1 ha2 hlo hhi hz1 hz2
                    go_upto_region 18 with (fail)
                    go_cut [132] (fun bv wx => bv = .bool false ∧ Ext wr wx)
                    case first =>
                      refine wp_region_G (fun w' => Ext wr w') [15] (by kernel_rfl) ?_
                      have gS : Ext wr wr.drew := (Below.refl _ _).drew
                      refine wpAnyG_take 0 (v := ?_) rfl (by kernel_rfl) (by kernel_rfl) (by kernel_rfl) (by kernel_rfl) (by rfl) (by kernel_rfl) (fun _ _ _ h => h) (by rfl) (fun w' hw' => ?_) gS ?_
                      rotate_left
                      focus (go_simp; (try with_reducible rfl); done)
                      (try simp only [Act.put, List.getElem_toArray, List.getElem_cons_succ, List.getElem_cons_zero, List.setIfInBounds_toArray, List.set_cons_zero, List.set_cons_succ])
                      refine wpAnyG_take 1 (v := ?_) rfl (by kernel_rfl) (by kernel_rfl) (by kernel_rfl) (by kernel_rfl) (by rfl) (by kernel_rfl) (fun _ _ _ h => h) (by rfl) (fun w' hw' => ?_) gS ?_
                      rotate_left
                      focus (go_simp; (try with_reducible rfl); done)
                      (try simp only [Act.put, List.getElem_toArray, List.getElem_cons_succ, List.getElem_cons_zero, List.setIfInBounds_toArray, List.set_cons_zero, List.set_cons_succ])
                      refine wpAnyG_take 2 (v := ?_) rfl (by kernel_rfl) (by kernel_rfl) (by kernel_rfl) (by kernel_rfl) (by rfl) (by kernel_rfl) (fun _ _ _ h => h) (by rfl) (fun w' hw' => ?_) gS ?_
                      rotate_left
                      focus (go_simp; (try with_reducible rfl); done)
                      (try simp only [Act.put, List.getElem_toArray, List.getElem_cons_succ, List.getElem_cons_zero, List.setIfInBounds_toArray, List.set_cons_zero, List.set_cons_succ])
                      refine wpAnyG_take 3 (v := ?_) rfl (by kernel_rfl) (by kernel_rfl) (by kernel_rfl) (by kernel_rfl) (by rfl) (by kernel_rfl) (fun _ _ _ h => h) (by rfl) (fun w' hw' => ?_) gS ?_
                      rotate_left
                      focus (have hh := HS.out _ hw'; go_split_ands; go_simp; (try with_reducible rfl); done)
                      (try simp only [Act.put, List.getElem_toArray, List.getElem_cons_succ, List.getElem_cons_zero, List.setIfInBounds_toArray, List.set_cons_zero, List.set_cons_succ])
                      refine wpAnyG_take 4 (v := ?_) rfl (by kernel_rfl) (by kernel_rfl) (by kernel_rfl) (by kernel_rfl) (by rfl) (by kernel_rfl) (fun _ _ _ h => h) (by rfl) (fun w' hw' => ?_) gS ?_
                      rotate_left
                      focus (have hh := HS.out _ hw'; go_split_ands; go_simp; (try with_reducible rfl); done)
                      (try simp only [Act.put, List.getElem_toArray, List.getElem_cons_succ, List.getElem_cons_zero, List.setIfInBounds_toArray, List.set_cons_zero, List.set_cons_succ])
                      refine wpAnyG_one 5 (by kernel_rfl) rfl (by rfl) (fun K hK => ?_)
                      go_simp
                      go_at_call 28
                      refine (rcmp_e (HEF.out _ gS) (HLO.out _ gS) (by omega) (by omega) (by omega) HZ1.out).mono ?_
                      rintro _ s8 ⟨rfl, x8⟩
                      have gS : Ext wr s8 := Ext.trans gS x8
                      (try go_wp2_with fail)
                      refine hK.out _ _ (fun _ => gS) ?_
                      clear hK K
                      (try simp only [Act.put, List.getElem_toArray, List.getElem_cons_succ, List.getElem_cons_zero, List.setIfInBounds_toArray, List.set_cons_zero, List.set_cons_succ])
                      refine wpAnyG_take 6 (v := ?_) rfl (by kernel_rfl) (by kernel_rfl) (by kernel_rfl) (by kernel_rfl) (by rfl) (by kernel_rfl) (fun _ _ _ h => h) (by rfl) (fun w' hw' => ?_) gS ?_
                      rotate_left
                      focus (go_simp; (try with_reducible rfl); done)
                      (try simp only [Act.put, List.getElem_toArray, List.getElem_cons_succ, List.getElem_cons_zero, List.setIfInBounds_toArray, List.set_cons_zero, List.set_cons_succ])
                      refine wpAnyG_take 7 (v := ?_) rfl (by kernel_rfl) (by kernel_rfl) (by kernel_rfl) (by kernel_rfl) (by rfl) (by kernel_rfl) (fun _ _ _ h => h) (by rfl) (fun w' hw' => ?_) gS ?_
                      rotate_left
                      focus (go_simp; (try with_reducible rfl); done)
                      (try simp only [Act.put, List.getElem_toArray, List.getElem_cons_succ, List.getElem_cons_zero, List.setIfInBounds_toArray, List.set_cons_zero, List.set_cons_succ])
                      refine wpAnyG_take 8 (v := ?_) rfl (by kernel_rfl) (by kernel_rfl) (by kernel_rfl) (by kernel_rfl) (by rfl) (by kernel_rfl) (fun _ _ _ h => h) (by rfl) (fun w' hw' => ?_) gS ?_
                      rotate_left
                      focus (go_simp; (try with_reducible rfl); done)
                      (try simp only [Act.put, List.getElem_toArray, List.getElem_cons_succ, List.getElem_cons_zero, List.setIfInBounds_toArray, List.set_cons_zero, List.set_cons_succ])
                      refine wpAnyG_take 9 (v := ?_) rfl (by kernel_rfl) (by kernel_rfl) (by kernel_rfl) (by kernel_rfl) (by rfl) (by kernel_rfl) (fun _ _ _ h => h) (by rfl) (fun w' hw' => ?_) gS ?_
                      rotate_left
                      focus (go_simp; (try with_reducible rfl); done)
                      (try simp only [Act.put, List.getElem_toArray, List.getElem_cons_succ, List.getElem_cons_zero, List.setIfInBounds_toArray, List.set_cons_zero, List.set_cons_succ])
                      refine wpAnyG_take 10 (v := ?_) rfl (by kernel_rfl) (by kernel_rfl) (by kernel_rfl) (by kernel_rfl) (by rfl) (by kernel_rfl) (fun _ _ _ h => h) (by rfl) (fun w' hw' => ?_) gS ?_
                      rotate_left
                      focus (go_simp; (try with_reducible rfl); done)
                      (try simp only [Act.put, List.getElem_toArray, List.getElem_cons_succ, List.getElem_cons_zero, List.setIfInBounds_toArray, List.set_cons_zero, List.set_cons_succ])
                      refine wpAnyG_take 11 (v := ?_) rfl (by kernel_rfl) (by kernel_rfl) (by kernel_rfl) (by kernel_rfl) (by rfl) (by kernel_rfl) (fun _ _ _ h => h) (by rfl) (fun w' hw' => ?_) gS ?_
                      rotate_left
                      focus (have hh := HS.out _ hw'; go_split_ands; go_simp; (try with_reducible rfl); done)
                      (try simp only [Act.put, List.getElem_toArray, List.getElem_cons_succ, List.getElem_cons_zero, List.setIfInBounds_toArray, List.set_cons_zero, List.set_cons_succ])
                      refine wpAnyG_take 12 (v := ?_) rfl (by kernel_rfl) (by kernel_rfl) (by kernel_rfl) (by kernel_rfl) (by rfl) (by kernel_rfl) (fun _ _ _ h => h) (by rfl) (fun w' hw' => ?_) gS ?_
                      rotate_left
                      focus (have hh := HS.out _ hw'; go_split_ands; go_simp; (try with_reducible rfl); done)
                      (try simp only [Act.put, List.getElem_toArray, List.getElem_cons_succ, List.getElem_cons_zero, List.setIfInBounds_toArray, List.set_cons_zero, List.set_cons_succ])
                      refine wpAnyG_one 13 (by kernel_rfl) rfl (by rfl) (fun K hK => ?_)
                      (try simp only [List.getElem_toArray, List.getElem_cons_succ, List.getElem_cons_zero])
                      go_simp
                      go_at_call 28
                      refine (rcmp_e (HEF.out _ gS) (HHI.out _ gS) (by omega) (by omega) (by omega) HZ2.out).mono ?_
                      rintro _ s9 ⟨rfl, x9⟩
                      have gS : Ext wr s9 := Ext.trans gS x9
                      have gR := gS
                      (try go_wp2_with fail)
                      refine hK.out _ _ (fun _ => gS) ?_
                      clear hK K
                      (try simp only [Act.put, List.getElem_toArray, List.getElem_cons_succ, List.getElem_cons_zero, List.setIfInBounds_toArray, List.set_cons_zero, List.set_cons_succ])
                      refine wpAnyG_take 14 (v := ?_) rfl (by kernel_rfl) (by kernel_rfl) (by kernel_rfl) (by kernel_rfl) (by rfl) (by kernel_rfl) (fun _ _ _ h => h) (by rfl) (fun w' hw' => ?_) gS ?_
                      rotate_left
                      focus (go_simp; (try with_reducible rfl); done)
                      (try simp only [Act.put, List.getElem_toArray, List.getElem_cons_succ, List.getElem_cons_zero, List.setIfInBounds_toArray, List.set_cons_zero, List.set_cons_succ])
                      refine wpAnyG_one 15 (by kernel_rfl) rfl (by rfl) (fun K hK => ?_)
                      (try simp only [List.getElem_toArray, List.getElem_cons_succ, List.getElem_cons_zero])
                      go_simp
                      refine hK.out _ _ (fun h => absurd h (by decide)) ?_
                      clear hK K
                      (try simp only [Act.put, List.getElem_toArray, List.getElem_cons_succ, List.getElem_cons_zero, List.setIfInBounds_toArray, List.set_cons_zero, List.set_cons_succ])
                      refine wpAnyG_done (by kernel_rfl) ?_ _
                      go_wp2
                      go_meet
                      exact ⟨by first | rfl | (simp; omega), gR⟩
                    case rest =>
                      obtain ⟨rfl, hxx⟩ := hcut
                      go_wp2
                      go_roundw
                      case rel => exact ⟨k + 1, by omega, by go_num, hy.trans hxx⟩
                      case measure => simp [intOf]; omega
            · obtain rfl : sn = k := by omega
              have hkk : ¬ ((sn : Int) < (sn : Int)) := by omega
              go_wp2
              go_ret
              exact ⟨rfl, X6.trans hy⟩
      · have hno : ¬ validL (lensOf n len) ∨ m ≠ (lensOf n len).length := by
          by_cases h1 : validL (lensOf n len)
          · exact .inr fun h2 => hok ⟨h1, by rw [h2, lensOf_length]⟩
          · exact .inl h1
        have HSP := Lib.hid (fun (w' : World) (h : Ext w w') => mmix_no (HLN.out w' h) (HX.out w' h) hno)
        have HSR := Lib.hid (fun (w' : World) (h : Ext w w') => rmix_no (HLN.out w' h) (HX.out w' h) hno)
        clear hf hs2 hok hno hg hgk hfx
        go_enter Try.func10, Try.ntmps10
        go_wp2_with (first
                | (go_at_call 12; (with_reducible refine (HFW.out _ x1).mono ?_); rintro e w2 hgb; obtain ⟨rfl, x2⟩ := hgb.t HF.out)
                | (go_at_call 23; (with_reducible refine (HSW.out _ (x1.trans x2)).mono ?_); rintro e w3 hgb; obtain ⟨rfl, x3⟩ := hgb.t HSF.out)
                | (go_at_call 38; (with_reducible refine (HSP.out _ ((x1.trans x2).trans x3)).mono ?_); rintro e w4 ⟨rfl, x4⟩)
                | (go_at_call 39; (with_reducible refine (HSR.out _ (((x1.trans x2).trans x3).trans x4)).mono ?_); rintro e w5 ⟨rfl, x5⟩)
                | (go_at_call 26; (with_reducible refine (efracs_same (EFs.nil_ true _ (fun _ => 0)) (EFs.nil_ true _ (fun _ => 0)) (fun _ _ => rfl)).mono ?_); rintro e w7 ⟨rfl, x7⟩; have y7 := x6.trans x7)
                | (go_at_call 26; (with_reducible refine (efracs_same (EFs.nil_ true _ (fun _ => 0)) (EFs.nil_ true _ (fun _ => 0)) (fun _ _ => rfl)).mono ?_); rintro e w6 ⟨rfl, x6⟩)
                | (go_at_call 11; (with_reducible refine awake_t.mono ?_); rintro e w1 ⟨rfl, x1⟩))
        go_ret
        exact ⟨by first | rfl | simp, ((x1.trans x2).trans x3).trans ((x4.trans x5).trans y7)⟩
    · have HF := Lib.hid hf
      have HSF := Lib.hid hs2
      clear hf hs2
      go_enter Try.func10, Try.ntmps10
      go_wp2_with (first
              | (go_at_call 12; (with_reducible refine (HFW.out _ x1).mono ?_); rintro e w2 hgb; obtain ⟨rfl, x2⟩ := hgb.t HF.out)
              | (go_at_call 23; (with_reducible refine (HSW.out _ (x1.trans x2)).mono ?_); rintro e w3 hgb; obtain ⟨rfl, x3⟩ := hgb.f HSF.out)
              | (go_at_call 11; (with_reducible refine awake_t.mono ?_); rintro e w4 ⟨rfl, x4⟩; have y4 := (x2.trans x3).trans x4)
              | (go_at_call 11; (with_reducible refine awake_t.mono ?_); rintro e w1 ⟨rfl, x1⟩))
      go_ret
      exact ⟨rfl, x1.trans y4⟩
  · have HF := Lib.hid hf
    clear hf
    go_enter Try.func10, Try.ntmps10
    go_wp2_with (first
            | (go_at_call 12; (with_reducible refine (HFW.out _ x1).mono ?_); rintro e w2 hgb; obtain ⟨rfl, x2⟩ := hgb.f HF.out)
            | (go_at_call 11; (with_reducible refine awake_t.mono ?_); rintro e w4 ⟨rfl, x4⟩; have y4 := (x2).trans x4)
            | (go_at_call 11; (with_reducible refine awake_t.mono ?_); rintro e w1 ⟨rfl, x1⟩))
    go_ret
    exact ⟨rfl, x1.trans y4⟩

end Go.Proofs.Ytmfigiifflljpaa
