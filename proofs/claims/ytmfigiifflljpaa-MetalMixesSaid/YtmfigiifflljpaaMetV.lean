/- metal: the fixed results. -/
import Derived.Test.YtmfigiifflljpaaMetW
import Derived.Test.YtmfigiifflljpaaMetS
import Derived.Test.YtmfigiifflljpaaMetU
import Derived.Test.YtmfigiifflljpaaMetL
set_option linter.unusedVariables false
set_option linter.unusedSimpArgs false
set_option maxRecDepth 100000
namespace Go.Proofs.Ytmfigiifflljpaa
open Go.RowKit Num

theorem fb_z {z : Int} (h : -1000 ≤ z ∧ z ≤ 1000) : FB (z : Rat) 3 := by
  rw [← over_one]
  exact fb_i64 (by omega) (by omega)
theorem fb_zQ {zs : List Int} (h : ∀ z ∈ zs, -1000 ≤ z ∧ z ≤ 1000) (k : Nat) : FB (zQ zs k) 3 := by
  unfold zQ
  by_cases hk : k < zs.length
  · exact fb_z (h _ (mem_getD.2 ⟨k, hk, rfl⟩))
  · rw [List.getD_eq_getElem?_getD, List.getElem?_eq_none (by omega)]
    exact fb_zeroM
theorem fb_m2 {f g : Nat → Rat} {n c : Nat} (hf : ∀ k, FB (f k) 3) (hg : ∀ k, FB (g k) 3) : FBm (m2 f g) n c 3 := fun i j _ _ => by
  unfold m2
  split
  · exact hf j
  · exact hg j
theorem fb_aw {n c : Nat} : FBm aw n c 3 := fb_m2 (fb_zQ (by decide)) (fb_zQ (by decide))
theorem GivesL.congr {w : World} {n m : Nat} {f g : Nat → Rat} {er er' : Int} {e : Ending} {w' : World} (h : GivesL w n f er e w') (hn : n = m) (he : er = er') (hf : ∀ k, k < m → f k = g k) : GivesL w m g er' e w' := by
  subst hn he
  obtain ⟨A, c, rfl, h1, h2⟩ := h
  exact ⟨A, c, rfl, h1.congr hf, h2⟩
theorem GivesM.congr {w : World} {n m c : Nat} {M M' : Mx} {er : Int} {e : Ending} {w' : World} (h : GivesM w n c M er e w') (hn : n = m) (hf : ∀ i, i < m → ∀ j, j < c → M i j = M' i j) : GivesM w m c M' er e w' := by
  subst hn
  obtain ⟨A, c, rfl, h1, h2⟩ := h
  exact ⟨A, c, rfl, h1.congr fun i j hi hj => hf i hi j hj, h2⟩
section
variable {w : World} {v x : Value}
theorem aw_rankC (h : EMat true w v 2 2 aw) : Calls Try.prog 13 #[v] w (fun e w' => e = .returned (.tuple #[.int .i64 2, .int .i64 0]) ∧ Ext w w') := by
  have h1 := mrank_ok h (Nat.le_refl 3) (by omega) fb_aw (by omega) (by omega) (by omega)
  rw [aw_rk] at h1
  exact h1
theorem aw_detC (h : EMat true w v 2 2 aw) : Calls Try.prog 17 #[v] w (GivesFE w (((-2 : Int) : Rat) / ((1 : Int) : Rat))) := by
  have h1 := mdet_ok h (Nat.le_refl 3) (by omega) fb_aw (by omega)
  rw [aw_det] at h1
  exact h1
theorem aw_solveC (h : EMat true w v 2 2 aw) (hx : EFs true w x 2 (zQ [5, 11])) : Calls Try.prog 24 #[v, x] w (GivesL w 2 (zQ [1, 2]) 0) :=
  (msolve_ok h hx fb_aw (fun k _ => fb_zQ (by decide) k) (Nat.le_refl 3) (by omega) (by omega) (by omega) (by omega)).mono fun e w' h => h.congr aw_solN aw_solE aw_sol
theorem aw_sevC (h : EMat true w v 1 2 aw) (hx : EFs true w x 1 (zQ [5])) : Calls Try.prog 24 #[v, x] w (GivesL w (solN (rrefs (wide aw (zQ [5]) 2) 1 3) 2) (fun i => (rrefs (wide aw (zQ [5]) 2) 1 3).m i 2) 9) :=
  (msolve_ok h hx fb_aw (fun k _ => fb_zQ (by decide) k) (Nat.le_refl 3) (by omega) (by omega) (by omega) (by omega)).mono fun e w' h => h.congr rfl aw_sev (fun _ _ => rfl)
theorem aw_noneC (h : EMat true w v 2 1 (m2 (zQ [1]) (zQ [1]))) (hx : EFs true w x 2 (zQ [1, 2])) : Calls Try.prog 24 #[v, x] w (GivesL w (solN (rrefs (wide (m2 (zQ [1]) (zQ [1])) (zQ [1, 2]) 1) 2 2) 1) (fun i => (rrefs (wide (m2 (zQ [1]) (zQ [1])) (zQ [1, 2]) 1) 2 2).m i 1) 7) :=
  (msolve_ok h hx (fb_m2 (fb_zQ (by decide)) (fb_zQ (by decide))) (fun k _ => fb_zQ (by decide) k) (Nat.le_refl 3) (by omega) (by omega) (by omega) (by omega)).mono fun e w' h => h.congr rfl aw_none (fun _ _ => rfl)
theorem aw_timesC (h : EMat true w v 2 2 aw) (hx : EFs true w x 2 (zQ [1, 2])) : Calls Try.prog 27 #[v, x] w (GivesL w 2 (zQ [5, 11]) 0) :=
  (mtimes_ok h hx fb_aw (fun k _ => fb_zQ (by decide) k) (Nat.le_refl 3) (by omega) (by omega) (by omega) (by omega)).mono fun e w' h => h.congr rfl rfl aw_times
theorem aw_kernelC (h : EMat true w v 1 2 aw) : Calls Try.prog 30 #[v] w (GivesM w 1 2 (m1 (zQ [-2, 1])) 0) :=
  (mkernel_ok h (Nat.le_refl 3) (by omega) fb_aw (by omega) (by omega) (by omega)).mono fun e w' h => h.congr (by rw [aw_fr]; rfl) fun i hi j hj => by
    rw [aw_fr, show i = 0 by omega]
    exact aw_ker j hj
theorem aw_mixC (h : EMat true w v 2 2 (m2 (zQ [90, 10]) (zQ [60, 40]))) (hx : EFs true w x 2 shQ) : Calls Try.prog 38 #[v, x] w (GivesL w 2 (zQ [70, 30]) 0) :=
  (mmix_ok h hx (fb_m2 (fb_zQ (by decide)) (fb_zQ (by decide))) (fun k _ => by
    unfold shQ
    split <;> exact fb_i64 (by omega) (by omega)) (Nat.le_refl 3) (by omega) (by omega) (by omega) (by omega)).mono fun e w' h => h.congr sh_mixN sh_mixE aw_mix
theorem aw_reduceC (h : EMat true w v 2 2 aw) : Calls Try.prog 15 #[v] w (GivesM w 2 2 (m2 (zQ [1, 0]) (zQ [0, 1])) 0) :=
  (mreduce_ok h (Nat.le_refl 3) (by omega) fb_aw (by omega) (by omega) (by omega)).mono fun e w' h => h.congr rfl aw_red
theorem ints2e {n : Nat} (hn : n = w.heap.size) (x y : Int) : IntsV (w.alloc (.cells #[.int .i64 x, .int .i64 y] 3)) (.slice (some ⟨n, 0, none⟩) 2 2) [x, y] := by rw [hn]; exact ints2 w x y
theorem of_1 {x : Int} (h : IntsV w v [x]) (hx : -1000 ≤ x ∧ x ≤ 1000) : Calls Try.prog 40 #[v] w (GivesFs w 1 (zQ [x])) := of_l h (by simp) (by simpa using hx)
theorem of_2 {x y : Int} (h : IntsV w v [x, y]) (hx : (-1000 ≤ x ∧ x ≤ 1000) ∧ (-1000 ≤ y ∧ y ≤ 1000)) : Calls Try.prog 40 #[v] w (GivesFs w 2 (zQ [x, y])) := of_l h (by simp) (by simpa using hx)
end

set_option maxHeartbeats 16000000 in
theorem awake_t {w : World} : Calls Try.prog 11 #[] w (fun e w' => e = .returned (.bool true) ∧ Ext w w') := by
  go_enter Try.func11, Try.ntmps11
  go_upto_region 2 with (first
    | (go_at_call 40; (with_reducible refine (of_2 (ints2 _ (1) (2)) (by decide)).mono ?_); rintro e w1 ⟨A1, c1, rfl, h1, x1⟩)
    | (go_at_call 40; (with_reducible refine (of_2 (ints2 _ (3) (4)) (by decide)).mono ?_); rintro e w2 ⟨A2, c2, rfl, h2, x2⟩))
  have y1 : Ext w w1 := (ext_alloc (Below.refl _ _) _).trans x1
  have y2 : Ext w1 w2 := (ext_alloc (Below.refl _ _) _).trans x2
  have hm := emat2 (h1.below y2) h2
  have y3 : Ext w (w2.alloc (.cells #[.slice A1 2 c1, .slice A2 2 c2] 39)) := ext_alloc (y1.trans y2) _
  obtain ⟨G, hG⟩ : ∃ G, G = w2.heap.size := ⟨_, rfl⟩
  rw [← hG] at hm ⊢
  generalize w2.alloc (.cells #[.slice A1 2 c1, .slice A2 2 c2] 39) = W at *
  have HA := Lib.hid (fun (w' : World) (h : Ext W w') => hm.below h)
  have HA1 := Lib.hid (fun (w' : World) (h : Ext W w') => (show EMat true w' (.slice (some ⟨G, 0, none⟩) 1 2) 1 2 aw from (hm.below h).take (by omega)))
  have HW := Lib.hid y3
  clear hm y1 y2 y3 h1 h2 x1 x2 hG
  go_upto_region 4 with (first
    | (go_at_call 13; (with_reducible refine (aw_rankC (HA.out _ (Below.refl _ _))).mono ?_); rintro e w3 ⟨rfl, x3⟩)
    | (go_at_call 17; (with_reducible refine (aw_detC (HA.out _ x3)).mono ?_); rintro e w4 ⟨b4, A4, k4, c4, B4, l4, d4, rfl, h4, x4, _, _⟩))
  have hB := FBox.new w4 (.bool b4) (.slice A4 k4 c4) (.slice B4 l4 d4) 34
  have y4 : Ext W (w4.alloc (.cells #[.bool b4, .slice A4 k4 c4, .slice B4 l4 d4] 34)) := ext_alloc (x3.trans x4) _
  have h4 := h4.below (ext_alloc (Below.refl _ _) (.cells #[.bool b4, .slice A4 k4 c4, .slice B4 l4 d4] 34))
  obtain ⟨BD, hBD⟩ : ∃ BD, BD = w4.heap.size := ⟨_, rfl⟩
  rw [← hBD] at hB ⊢
  generalize w4.alloc (.cells #[.bool b4, .slice A4 k4 c4, .slice B4 l4 d4] 34) = W4 at *
  have HB := Lib.hid (fun (w' : World) (h : Ext W4 w') => hB.below h)
  have HD := Lib.hid (fun (w' : World) (h : Ext W4 w') => h4.below h)
  clear hB h4 x3 x4 hBD
  go_upto_region 5 with (first
    | (go_at_call 40; (with_reducible refine (of_2 (ints2 _ (5) (11)) (by decide)).mono ?_); rintro e w5 ⟨A5, c5, rfl, h5, x5⟩)
    | (go_at_call 24; (with_reducible refine (aw_solveC (HA.out _ (y4.trans ((ext_alloc (Below.refl _ _) _).trans x5))) h5).mono ?_); rintro e w6 ⟨A6, c6, rfl, h6, x6⟩))
  have y6 : Ext W4 w6 := ((ext_alloc (Below.refl _ _) _).trans x5).trans x6
  have HX := Lib.hid (fun (w' : World) (h : Ext w6 w') => h6.below h)
  clear h5 h6 x5 x6
  go_upto_region 6 with (first
    | (go_at_call 40; (with_reducible refine (of_2 (ints2 _ (1) (2)) (by decide)).mono ?_); rintro e w7 ⟨A7, c7, rfl, h7, x7⟩)
    | (go_at_call 27; (with_reducible refine (aw_timesC (HA.out _ (y4.trans (y6.trans ((ext_alloc (Below.refl _ _) _).trans x7)))) h7).mono ?_); rintro e w8 ⟨A8, c8, rfl, h8, x8⟩))
  have y8 : Ext w6 w8 := ((ext_alloc (Below.refl _ _) _).trans x7).trans x8
  have HT := Lib.hid (fun (w' : World) (h : Ext w8 w') => h8.below h)
  have Y8 : Ext W w8 := y4.trans (y6.trans y8)
  clear h7 h8 x7 x8
  go_upto_region 7 with (go_at_call 30; (with_reducible refine (aw_kernelC (HA1.out _ Y8)).mono ?_); rintro e w9 ⟨A9, c9, rfl, h9, x9⟩)
  have HK := Lib.hid (fun (w' : World) (h : Ext w9 w') => h9.below h)
  have Y9 : Ext W w9 := Y8.trans x9
  clear h9
  refine wp_region_G (fun w' => Ext w9 w') [9] (by kernel_rfl) ?_
  have gS : Ext w9 w9.drew := (Below.refl _ _).drew
  refine wpAnyG_take 0 (v := ?_) rfl (by kernel_rfl) (by kernel_rfl) (by kernel_rfl) (by kernel_rfl) (by rfl) (by kernel_rfl) (fun _ _ _ h => h) (by rfl) (fun w' hw' => ?_) gS ?_
  rotate_left
  focus (go_simp; (try with_reducible rfl); done)
  (try simp only [Act.put, List.getElem_toArray, List.getElem_cons_succ, List.getElem_cons_zero, List.setIfInBounds_toArray, List.set_cons_zero, List.set_cons_succ])
  refine wpAnyG_take 1 (v := ?_) rfl (by kernel_rfl) (by kernel_rfl) (by kernel_rfl) (by kernel_rfl) (by rfl) (by kernel_rfl) (fun _ _ _ h => h) (by rfl) (fun w' hw' => ?_) gS ?_
  rotate_left
  focus (go_simp; (try with_reducible rfl); done)
  (try simp only [Act.put, List.getElem_toArray, List.getElem_cons_succ, List.getElem_cons_zero, List.setIfInBounds_toArray, List.set_cons_zero, List.set_cons_succ])
  refine wpAnyG_one 2 (by kernel_rfl) rfl (by rfl) (fun K hK => ?_)
  go_simp
  have gS : Ext w9 (w9.alloc (.cells #[.int .i64 5] 3)).drew := (ext_alloc (Below.refl _ _) _).drew
  have hI : IntsV (w9.alloc (.cells #[.int .i64 5] 3)).drew (.slice (some ⟨w9.heap.size, 0, none⟩) 1 1) [5] := ints1 w9 5
  generalize (w9.alloc (.cells #[.int .i64 5] 3)).drew = s1 at *
  (try go_wp2_with fail)
  refine hK.out _ _ (fun _ => gS) ?_
  clear hK K
  (try simp only [Act.put, List.getElem_toArray, List.getElem_cons_succ, List.getElem_cons_zero, List.setIfInBounds_toArray, List.set_cons_zero, List.set_cons_succ])
  refine wpAnyG_one 3 (by kernel_rfl) rfl (by rfl) (fun K hK => ?_)
  go_simp
  go_at_call 40
  refine (of_1 hI (by decide)).mono ?_
  rintro _ s2 ⟨A10, c10, rfl, h10, x10⟩
  have gS : Ext w9 s2 := Ext.trans gS x10
  (try go_wp2_with fail)
  refine hK.out _ _ (fun _ => gS) ?_
  clear hK K
  (try simp only [Act.put, List.getElem_toArray, List.getElem_cons_succ, List.getElem_cons_zero, List.setIfInBounds_toArray, List.set_cons_zero, List.set_cons_succ])
  refine wpAnyG_one 4 (by kernel_rfl) rfl (by rfl) (fun K hK => ?_)
  go_simp
  go_at_call 24
  refine (aw_sevC (HA1.out _ (Y9.trans gS)) h10).mono ?_
  rintro _ s3 ⟨A11, c11, rfl, _, x11⟩
  have gS : Ext w9 s3 := Ext.trans gS x11
  have g9 := gS
  (try go_wp2_with fail)
  refine hK.out _ _ (fun _ => gS) ?_
  clear hK K
  (try simp only [Act.put, List.getElem_toArray, List.getElem_cons_succ, List.getElem_cons_zero, List.setIfInBounds_toArray, List.set_cons_zero, List.set_cons_succ])
  refine wpAnyG_take 5 (v := ?_) rfl (by kernel_rfl) (by kernel_rfl) (by kernel_rfl) (by kernel_rfl) (by rfl) (by kernel_rfl) (fun _ _ _ h => h) (by rfl) (fun w' hw' => ?_) gS ?_
  rotate_left
  focus (go_simp; (try with_reducible rfl); done)
  (try simp only [Act.put, List.getElem_toArray, List.getElem_cons_succ, List.getElem_cons_zero, List.setIfInBounds_toArray, List.set_cons_zero, List.set_cons_succ])
  refine wpAnyG_take 6 (v := ?_) rfl (by kernel_rfl) (by kernel_rfl) (by kernel_rfl) (by kernel_rfl) (by rfl) (by kernel_rfl) (fun _ _ _ h => h) (by rfl) (fun w' hw' => ?_) gS ?_
  rotate_left
  focus (go_simp; (try with_reducible rfl); done)
  (try simp only [Act.put, List.getElem_toArray, List.getElem_cons_succ, List.getElem_cons_zero, List.setIfInBounds_toArray, List.set_cons_zero, List.set_cons_succ])
  refine wpAnyG_take 7 (v := ?_) rfl (by kernel_rfl) (by kernel_rfl) (by kernel_rfl) (by kernel_rfl) (by rfl) (by kernel_rfl) (fun _ _ _ h => h) (by rfl) (fun w' hw' => ?_) gS ?_
  rotate_left
  focus (go_simp; (try with_reducible rfl); done)
  (try simp only [Act.put, List.getElem_toArray, List.getElem_cons_succ, List.getElem_cons_zero, List.setIfInBounds_toArray, List.set_cons_zero, List.set_cons_succ])
  refine wpAnyG_take 8 (v := ?_) rfl (by kernel_rfl) (by kernel_rfl) (by kernel_rfl) (by kernel_rfl) (by rfl) (by kernel_rfl) (fun _ _ _ h => h) (by rfl) (fun w' hw' => ?_) gS ?_
  rotate_left
  focus (go_simp; (try with_reducible rfl); done)
  (try simp only [Act.put, List.getElem_toArray, List.getElem_cons_succ, List.getElem_cons_zero, List.setIfInBounds_toArray, List.set_cons_zero, List.set_cons_succ])
  refine wpAnyG_one 9 (by kernel_rfl) rfl (by rfl) (fun K hK => ?_)
  (try simp only [List.getElem_toArray, List.getElem_cons_succ, List.getElem_cons_zero])
  go_simp
  refine hK.out _ _ (fun h => absurd h (by decide)) ?_
  clear hK K
  (try simp only [Act.put, List.getElem_toArray, List.getElem_cons_succ, List.getElem_cons_zero, List.setIfInBounds_toArray, List.set_cons_zero, List.set_cons_succ])
  refine wpAnyG_done (by kernel_rfl) ?_ _
  have Y11 : Ext W s3 := Y9.trans g9
  clear h10 x10 x11 hI gS
  go_upto_region 9 with (first
    | (go_at_call 40; (with_reducible refine (of_2 (ints2e (by simp) 1 2) (by decide)).mono ?_); rintro e w14 ⟨A14, c14, rfl, h14, x14⟩)
    | (go_at_call 24; (with_reducible refine (aw_noneC ((emat2 (h12.below ((ext_alloc (Below.refl _ _) _).trans x13)) h13).below ((ext_alloc (Below.refl _ _) _).trans x14)) h14).mono ?_); rintro e w15 ⟨A15, c15, rfl, _, x15⟩)
    | (go_at_call 40; (with_reducible refine (of_1 (ints1 s3 1) (by decide)).mono ?_); rintro e w12 ⟨A12, c12, rfl, h12, x12⟩)
    | (go_at_call 40; (with_reducible refine (of_1 (ints1 _ 1) (by decide)).mono ?_); rintro e w13 ⟨A13, c13, rfl, h13, x13⟩))
  have y15 : Ext s3 w15 := ((ext_alloc (Below.refl _ _) _).trans x12).trans (((ext_alloc (Below.refl _ _) _).trans x13).trans ((ext_alloc (ext_alloc (Below.refl _ _) _) _).trans (x14.trans x15)))
  clear h12 h13 h14 x12 x13 x14 x15
  go_upto_region 10 with (first
    | (go_at_call 40; (with_reducible refine (of_2 (ints2 _ (90) (10)) (by decide)).mono ?_); rintro e w16 ⟨A16, c16, rfl, h16, x16⟩)
    | (go_at_call 40; (with_reducible refine (of_2 (ints2 _ (60) (40)) (by decide)).mono ?_); rintro e w17 ⟨A17, c17, rfl, h17, x17⟩)
    | (go_at_call 41; (with_reducible refine (rfof_n (n := 1) (d := 3) (by omega) (by omega)).mono ?_); rintro e w18 ⟨b18, A18, k18, c18, B18, l18, d18, rfl, h18, x18, _, _⟩)
    | (go_at_call 41; (with_reducible refine (rfof_n (n := 2) (d := 3) (by omega) (by omega)).mono ?_); rintro e w19 ⟨b19, A19, k19, c19, B19, l19, d19, rfl, h19, x19, _, _⟩)
    | (go_at_call 38; (with_reducible refine (aw_mixC ((emat2 (h16.below ((ext_alloc (Below.refl _ _) _).trans x17)) h17).below ((x18.trans x19).trans (ext_alloc (Below.refl _ _) _))) (efs2 (h18.below x19) h19)).mono ?_); rintro e w20 ⟨A20, c20, rfl, h20, x20⟩))
  have y20 : Ext w15 w20 := ((ext_alloc (Below.refl _ _) _).trans x16).trans (((ext_alloc (Below.refl _ _) _).trans x17).trans ((ext_alloc (Below.refl _ _) _).trans ((x18.trans x19).trans ((ext_alloc (Below.refl _ _) _).trans x20))))
  have HM := Lib.hid (fun (w' : World) (h : Ext w20 w') => h20.below h)
  have Y20 : Ext W w20 := (Y11.trans y15).trans y20
  clear h16 h17 h18 h19 h20 x16 x17 x18 x19 x20
  go_upto_region 13 with (go_at_call 15; (with_reducible refine (aw_reduceC (HA.out _ Y20)).mono ?_); rintro e w21 ⟨A21, c21, rfl, h21, x21⟩)
  have HR := Lib.hid (fun (w' : World) (h : Ext w21 w') => h21.below h)
  have e20 : Ext w20 w21 := x21
  have e9 : Ext w9 w21 := (g9.trans y15).trans (y20.trans x21)
  have e8 : Ext w8 w21 := x9.trans e9
  have e6 : Ext w6 w21 := y8.trans e8
  have e4 : Ext W4 w21 := y6.trans e6
  have eW : Ext w w21 := HW.out.trans (Y20.trans x21)
  have HS := Lib.hid (fun (w' : World) (h : Ext w21 w') => (⟨(HB.out w' (e4.trans h)).1, (HB.out w' (e4.trans h)).2.1, (HB.out w' (e4.trans h)).2.2.1⟩ : w'.cell? ⟨BD, 0, none⟩ = some (.bool b4) ∧ w'.cell? ⟨BD, 1, none⟩ = some (.slice A4 k4 c4) ∧ w'.cell? ⟨BD, 2, none⟩ = some (.slice B4 l4 d4)))
  clear h21 x21 x9 g9 y15 y20 y8 y6 y4 Y8 Y9 Y11 Y20
  refine wp_region_G (fun w' => Ext w21 w') [41] (by kernel_rfl) ?_
  have gS : Ext w21 w21.drew := (Below.refl _ _).drew
  refine wpAnyG_take 0 (v := ?_) rfl (by kernel_rfl) (by kernel_rfl) (by kernel_rfl) (by kernel_rfl) (by rfl) (by kernel_rfl) (fun _ _ _ h => h) (by rfl) (fun w' hw' => ?_) gS ?_
  rotate_left
  focus (go_simp; (try with_reducible rfl); done)
  (try simp only [Act.put, List.getElem_toArray, List.getElem_cons_succ, List.getElem_cons_zero, List.setIfInBounds_toArray, List.set_cons_zero, List.set_cons_succ])
  refine wpAnyG_take 1 (v := ?_) rfl (by kernel_rfl) (by kernel_rfl) (by kernel_rfl) (by kernel_rfl) (by rfl) (by kernel_rfl) (fun _ _ _ h => h) (by rfl) (fun w' hw' => ?_) gS ?_
  rotate_left
  focus (go_simp; (try with_reducible rfl); done)
  (try simp only [Act.put, List.getElem_toArray, List.getElem_cons_succ, List.getElem_cons_zero, List.setIfInBounds_toArray, List.set_cons_zero, List.set_cons_succ])
  refine wpAnyG_take 2 (v := ?_) rfl (by kernel_rfl) (by kernel_rfl) (by kernel_rfl) (by kernel_rfl) (by rfl) (by kernel_rfl) (fun _ _ _ h => h) (by rfl) (fun w' hw' => ?_) gS ?_
  rotate_left
  focus (go_simp; (try with_reducible rfl); done)
  (try simp only [Act.put, List.getElem_toArray, List.getElem_cons_succ, List.getElem_cons_zero, List.setIfInBounds_toArray, List.set_cons_zero, List.set_cons_succ])
  refine wpAnyG_take 3 (v := ?_) rfl (by kernel_rfl) (by kernel_rfl) (by kernel_rfl) (by kernel_rfl) (by rfl) (by kernel_rfl) (fun _ _ _ h => h) (by rfl) (fun w' hw' => ?_) gS ?_
  rotate_left
  focus (have hh := HS.out _ hw'; go_split_ands; go_simp; (try with_reducible rfl); done)
  (try simp only [Act.put, List.getElem_toArray, List.getElem_cons_succ, List.getElem_cons_zero, List.setIfInBounds_toArray, List.set_cons_zero, List.set_cons_succ])
  refine wpAnyG_one 4 (by kernel_rfl) rfl (by rfl) (fun K hK => ?_)
  go_simp
  go_at_call 41
  refine (rfof_n (n := -2) (d := 1) (by omega) (by omega)).mono ?_
  rintro _ s1 ⟨b22, A22, k22, c22, B22, l22, d22, rfl, h22, x22, _, _⟩
  have gS : Ext w21 s1 := Ext.trans gS x22
  (try go_wp2_with fail)
  refine hK.out _ _ (fun _ => gS) ?_
  clear hK K
  (try simp only [Act.put, List.getElem_toArray, List.getElem_cons_succ, List.getElem_cons_zero, List.setIfInBounds_toArray, List.set_cons_zero, List.set_cons_succ])
  refine wpAnyG_one 5 (by kernel_rfl) rfl (by rfl) (fun K hK => ?_)
  go_simp
  go_at_call 20
  refine (bfrac_same (HD.out _ (e4.trans gS)) h22).mono ?_
  rintro _ s2 ⟨rfl, x23⟩
  have gS : Ext w21 s2 := Ext.trans gS x23
  (try go_wp2_with fail)
  refine hK.out _ _ (fun _ => gS) ?_
  clear hK K
  (try simp only [Act.put, List.getElem_toArray, List.getElem_cons_succ, List.getElem_cons_zero, List.setIfInBounds_toArray, List.set_cons_zero, List.set_cons_succ])
  refine wpAnyG_take 6 (v := ?_) rfl (by kernel_rfl) (by kernel_rfl) (by kernel_rfl) (by kernel_rfl) (by rfl) (by kernel_rfl) (fun _ _ _ h => h) (by rfl) (fun w' hw' => ?_) gS ?_
  rotate_left
  focus (go_simp; (try with_reducible rfl); done)
  (try simp only [Act.put, List.getElem_toArray, List.getElem_cons_succ, List.getElem_cons_zero, List.setIfInBounds_toArray, List.set_cons_zero, List.set_cons_succ])
  refine wpAnyG_take 7 (v := ?_) rfl (by kernel_rfl) (by kernel_rfl) (by kernel_rfl) (by kernel_rfl) (by rfl) (by kernel_rfl) (fun _ _ _ h => h) (by rfl) (fun w' hw' => ?_) gS ?_
  rotate_left
  focus (go_simp; (try with_reducible rfl); done)
  (try simp only [Act.put, List.getElem_toArray, List.getElem_cons_succ, List.getElem_cons_zero, List.setIfInBounds_toArray, List.set_cons_zero, List.set_cons_succ])
  refine wpAnyG_take 8 (v := ?_) rfl (by kernel_rfl) (by kernel_rfl) (by kernel_rfl) (by kernel_rfl) (by rfl) (by kernel_rfl) (fun _ _ _ h => h) (by rfl) (fun w' hw' => ?_) gS ?_
  rotate_left
  focus (go_simp; (try with_reducible rfl); done)
  (try simp only [Act.put, List.getElem_toArray, List.getElem_cons_succ, List.getElem_cons_zero, List.setIfInBounds_toArray, List.set_cons_zero, List.set_cons_succ])
  refine wpAnyG_one 9 (by kernel_rfl) rfl (by rfl) (fun K hK => ?_)
  (try simp only [List.getElem_toArray, List.getElem_cons_succ, List.getElem_cons_zero])
  go_simp
  have gS : Ext w21 (s2.alloc (.cells #[.int .i64 1, .int .i64 2] 3)) := ext_alloc gS _
  have hI9 := ints2 s2 1 2
  generalize s2.alloc (.cells #[.int .i64 1, .int .i64 2] 3) = s3 at *
  (try go_wp2_with fail)
  refine hK.out _ _ (fun _ => gS) ?_
  clear hK K
  (try simp only [Act.put, List.getElem_toArray, List.getElem_cons_succ, List.getElem_cons_zero, List.setIfInBounds_toArray, List.set_cons_zero, List.set_cons_succ])
  refine wpAnyG_one 10 (by kernel_rfl) rfl (by rfl) (fun K hK => ?_)
  (try simp only [List.getElem_toArray, List.getElem_cons_succ, List.getElem_cons_zero])
  go_simp
  go_at_call 40
  refine (of_2 hI9 (by decide)).mono ?_
  rintro _ s4 ⟨D10, e10, rfl, h10, z10⟩
  have gS : Ext w21 s4 := Ext.trans gS z10
  (try go_wp2_with fail)
  refine hK.out _ _ (fun _ => gS) ?_
  clear hK K
  (try simp only [Act.put, List.getElem_toArray, List.getElem_cons_succ, List.getElem_cons_zero, List.setIfInBounds_toArray, List.set_cons_zero, List.set_cons_succ])
  refine wpAnyG_one 11 (by kernel_rfl) rfl (by rfl) (fun K hK => ?_)
  (try simp only [List.getElem_toArray, List.getElem_cons_succ, List.getElem_cons_zero])
  go_simp
  go_at_call 26
  refine (efracs_same (HX.out _ (e6.trans gS)) h10 (fun _ _ => rfl)).mono ?_
  rintro _ s5 ⟨rfl, z11⟩
  have gS : Ext w21 s5 := Ext.trans gS z11
  (try go_wp2_with fail)
  refine hK.out _ _ (fun _ => gS) ?_
  clear hK K
  (try simp only [Act.put, List.getElem_toArray, List.getElem_cons_succ, List.getElem_cons_zero, List.setIfInBounds_toArray, List.set_cons_zero, List.set_cons_succ])
  refine wpAnyG_take 12 (v := ?_) rfl (by kernel_rfl) (by kernel_rfl) (by kernel_rfl) (by kernel_rfl) (by rfl) (by kernel_rfl) (fun _ _ _ h => h) (by rfl) (fun w' hw' => ?_) gS ?_
  rotate_left
  focus (go_simp; (try with_reducible rfl); done)
  (try simp only [Act.put, List.getElem_toArray, List.getElem_cons_succ, List.getElem_cons_zero, List.setIfInBounds_toArray, List.set_cons_zero, List.set_cons_succ])
  refine wpAnyG_take 13 (v := ?_) rfl (by kernel_rfl) (by kernel_rfl) (by kernel_rfl) (by kernel_rfl) (by rfl) (by kernel_rfl) (fun _ _ _ h => h) (by rfl) (fun w' hw' => ?_) gS ?_
  rotate_left
  focus (go_simp; (try with_reducible rfl); done)
  (try simp only [Act.put, List.getElem_toArray, List.getElem_cons_succ, List.getElem_cons_zero, List.setIfInBounds_toArray, List.set_cons_zero, List.set_cons_succ])
  refine wpAnyG_take 14 (v := ?_) rfl (by kernel_rfl) (by kernel_rfl) (by kernel_rfl) (by kernel_rfl) (by rfl) (by kernel_rfl) (fun _ _ _ h => h) (by rfl) (fun w' hw' => ?_) gS ?_
  rotate_left
  focus (go_simp; (try with_reducible rfl); done)
  (try simp only [Act.put, List.getElem_toArray, List.getElem_cons_succ, List.getElem_cons_zero, List.setIfInBounds_toArray, List.set_cons_zero, List.set_cons_succ])
  refine wpAnyG_one 15 (by kernel_rfl) rfl (by rfl) (fun K hK => ?_)
  (try simp only [List.getElem_toArray, List.getElem_cons_succ, List.getElem_cons_zero])
  go_simp
  have gS : Ext w21 (s5.alloc (.cells #[.int .i64 5, .int .i64 11] 3)) := ext_alloc gS _
  have hI15 := ints2 s5 5 11
  generalize s5.alloc (.cells #[.int .i64 5, .int .i64 11] 3) = s6 at *
  (try go_wp2_with fail)
  refine hK.out _ _ (fun _ => gS) ?_
  clear hK K
  (try simp only [Act.put, List.getElem_toArray, List.getElem_cons_succ, List.getElem_cons_zero, List.setIfInBounds_toArray, List.set_cons_zero, List.set_cons_succ])
  refine wpAnyG_one 16 (by kernel_rfl) rfl (by rfl) (fun K hK => ?_)
  (try simp only [List.getElem_toArray, List.getElem_cons_succ, List.getElem_cons_zero])
  go_simp
  go_at_call 40
  refine (of_2 hI15 (by decide)).mono ?_
  rintro _ s7 ⟨D16, e16, rfl, h16, z16⟩
  have gS : Ext w21 s7 := Ext.trans gS z16
  (try go_wp2_with fail)
  refine hK.out _ _ (fun _ => gS) ?_
  clear hK K
  (try simp only [Act.put, List.getElem_toArray, List.getElem_cons_succ, List.getElem_cons_zero, List.setIfInBounds_toArray, List.set_cons_zero, List.set_cons_succ])
  refine wpAnyG_one 17 (by kernel_rfl) rfl (by rfl) (fun K hK => ?_)
  (try simp only [List.getElem_toArray, List.getElem_cons_succ, List.getElem_cons_zero])
  go_simp
  go_at_call 26
  refine (efracs_same (HT.out _ (e8.trans gS)) h16 (fun _ _ => rfl)).mono ?_
  rintro _ s8 ⟨rfl, z17⟩
  have gS : Ext w21 s8 := Ext.trans gS z17
  (try go_wp2_with fail)
  refine hK.out _ _ (fun _ => gS) ?_
  clear hK K
  (try simp only [Act.put, List.getElem_toArray, List.getElem_cons_succ, List.getElem_cons_zero, List.setIfInBounds_toArray, List.set_cons_zero, List.set_cons_succ])
  refine wpAnyG_take 18 (v := ?_) rfl (by kernel_rfl) (by kernel_rfl) (by kernel_rfl) (by kernel_rfl) (by rfl) (by kernel_rfl) (fun _ _ _ h => h) (by rfl) (fun w' hw' => ?_) gS ?_
  rotate_left
  focus (go_simp; (try with_reducible rfl); done)
  (try simp only [Act.put, List.getElem_toArray, List.getElem_cons_succ, List.getElem_cons_zero, List.setIfInBounds_toArray, List.set_cons_zero, List.set_cons_succ])
  refine wpAnyG_take 19 (v := ?_) rfl (by kernel_rfl) (by kernel_rfl) (by kernel_rfl) (by kernel_rfl) (by rfl) (by kernel_rfl) (fun _ _ _ h => h) (by rfl) (fun w' hw' => ?_) gS ?_
  rotate_left
  focus (go_simp; (try with_reducible rfl); done)
  (try simp only [Act.put, List.getElem_toArray, List.getElem_cons_succ, List.getElem_cons_zero, List.setIfInBounds_toArray, List.set_cons_zero, List.set_cons_succ])
  refine wpAnyG_take 20 (v := ?_) rfl (by kernel_rfl) (by kernel_rfl) (by kernel_rfl) (by kernel_rfl) (by rfl) (by kernel_rfl) (fun _ _ _ h => h) (by rfl) (fun w' hw' => ?_) gS ?_
  rotate_left
  focus (go_simp; (try with_reducible rfl); done)
  (try simp only [Act.put, List.getElem_toArray, List.getElem_cons_succ, List.getElem_cons_zero, List.setIfInBounds_toArray, List.set_cons_zero, List.set_cons_succ])
  refine wpAnyG_one 21 (by kernel_rfl) rfl (by rfl) (fun K hK => ?_)
  (try simp only [List.getElem_toArray, List.getElem_cons_succ, List.getElem_cons_zero])
  go_simp
  have gS : Ext w21 (s8.alloc (.cells #[.int .i64 (-2), .int .i64 1] 3)) := ext_alloc gS _
  have hI21 := ints2 s8 (-2) 1
  generalize s8.alloc (.cells #[.int .i64 (-2), .int .i64 1] 3) = s9 at *
  (try go_wp2_with fail)
  refine hK.out _ _ (fun _ => gS) ?_
  clear hK K
  (try simp only [Act.put, List.getElem_toArray, List.getElem_cons_succ, List.getElem_cons_zero, List.setIfInBounds_toArray, List.set_cons_zero, List.set_cons_succ])
  refine wpAnyG_one 22 (by kernel_rfl) rfl (by rfl) (fun K hK => ?_)
  (try simp only [List.getElem_toArray, List.getElem_cons_succ, List.getElem_cons_zero])
  go_simp
  go_at_call 40
  refine (of_2 hI21 (by decide)).mono ?_
  rintro _ s10 ⟨D22, e22, rfl, h22, z22⟩
  have gS : Ext w21 s10 := Ext.trans gS z22
  (try go_wp2_with fail)
  refine hK.out _ _ (fun _ => gS) ?_
  clear hK K
  (try simp only [Act.put, List.getElem_toArray, List.getElem_cons_succ, List.getElem_cons_zero, List.setIfInBounds_toArray, List.set_cons_zero, List.set_cons_succ])
  refine wpAnyG_one 23 (by kernel_rfl) rfl (by rfl) (fun K hK => ?_)
  (try simp only [List.getElem_toArray, List.getElem_cons_succ, List.getElem_cons_zero])
  go_simp
  have gS : Ext w21 (s10.alloc (.cells #[.slice D22 2 e22] 39)) := ext_alloc gS _
  have hE := emat1 h22
  generalize s10.alloc (.cells #[.slice D22 2 e22] 39) = s11 at *
  (try go_wp2_with fail)
  refine hK.out _ _ (fun _ => gS) ?_
  clear hK K
  (try simp only [Act.put, List.getElem_toArray, List.getElem_cons_succ, List.getElem_cons_zero, List.setIfInBounds_toArray, List.set_cons_zero, List.set_cons_succ])
  refine wpAnyG_one 24 (by kernel_rfl) rfl (by rfl) (fun K hK => ?_)
  (try simp only [List.getElem_toArray, List.getElem_cons_succ, List.getElem_cons_zero])
  go_simp
  go_at_call 19
  refine (ematrix_same (HK.out _ (e9.trans gS)) hE (fun _ _ _ _ => rfl) (by omega)).mono ?_
  rintro _ s12 ⟨rfl, z24⟩
  have gS : Ext w21 s12 := Ext.trans gS z24
  (try go_wp2_with fail)
  refine hK.out _ _ (fun _ => gS) ?_
  clear hK K
  (try simp only [Act.put, List.getElem_toArray, List.getElem_cons_succ, List.getElem_cons_zero, List.setIfInBounds_toArray, List.set_cons_zero, List.set_cons_succ])
  refine wpAnyG_take 25 (v := ?_) rfl (by kernel_rfl) (by kernel_rfl) (by kernel_rfl) (by kernel_rfl) (by rfl) (by kernel_rfl) (fun _ _ _ h => h) (by rfl) (fun w' hw' => ?_) gS ?_
  rotate_left
  focus (go_simp; (try with_reducible rfl); done)
  (try simp only [Act.put, List.getElem_toArray, List.getElem_cons_succ, List.getElem_cons_zero, List.setIfInBounds_toArray, List.set_cons_zero, List.set_cons_succ])
  refine wpAnyG_take 26 (v := ?_) rfl (by kernel_rfl) (by kernel_rfl) (by kernel_rfl) (by kernel_rfl) (by rfl) (by kernel_rfl) (fun _ _ _ h => h) (by rfl) (fun w' hw' => ?_) gS ?_
  rotate_left
  focus (go_simp; (try with_reducible rfl); done)
  (try simp only [Act.put, List.getElem_toArray, List.getElem_cons_succ, List.getElem_cons_zero, List.setIfInBounds_toArray, List.set_cons_zero, List.set_cons_succ])
  refine wpAnyG_take 27 (v := ?_) rfl (by kernel_rfl) (by kernel_rfl) (by kernel_rfl) (by kernel_rfl) (by rfl) (by kernel_rfl) (fun _ _ _ h => h) (by rfl) (fun w' hw' => ?_) gS ?_
  rotate_left
  focus (go_simp; (try with_reducible rfl); done)
  (try simp only [Act.put, List.getElem_toArray, List.getElem_cons_succ, List.getElem_cons_zero, List.setIfInBounds_toArray, List.set_cons_zero, List.set_cons_succ])
  refine wpAnyG_one 28 (by kernel_rfl) rfl (by rfl) (fun K hK => ?_)
  (try simp only [List.getElem_toArray, List.getElem_cons_succ, List.getElem_cons_zero])
  go_simp
  have gS : Ext w21 (s12.alloc (.cells #[.int .i64 70, .int .i64 30] 3)) := ext_alloc gS _
  have hI28 := ints2 s12 70 30
  generalize s12.alloc (.cells #[.int .i64 70, .int .i64 30] 3) = s13 at *
  (try go_wp2_with fail)
  refine hK.out _ _ (fun _ => gS) ?_
  clear hK K
  (try simp only [Act.put, List.getElem_toArray, List.getElem_cons_succ, List.getElem_cons_zero, List.setIfInBounds_toArray, List.set_cons_zero, List.set_cons_succ])
  refine wpAnyG_one 29 (by kernel_rfl) rfl (by rfl) (fun K hK => ?_)
  (try simp only [List.getElem_toArray, List.getElem_cons_succ, List.getElem_cons_zero])
  go_simp
  go_at_call 40
  refine (of_2 hI28 (by decide)).mono ?_
  rintro _ s14 ⟨D29, e29, rfl, h29, z29⟩
  have gS : Ext w21 s14 := Ext.trans gS z29
  (try go_wp2_with fail)
  refine hK.out _ _ (fun _ => gS) ?_
  clear hK K
  (try simp only [Act.put, List.getElem_toArray, List.getElem_cons_succ, List.getElem_cons_zero, List.setIfInBounds_toArray, List.set_cons_zero, List.set_cons_succ])
  refine wpAnyG_one 30 (by kernel_rfl) rfl (by rfl) (fun K hK => ?_)
  (try simp only [List.getElem_toArray, List.getElem_cons_succ, List.getElem_cons_zero])
  go_simp
  go_at_call 26
  refine (efracs_same (HM.out _ (e20.trans gS)) h29 (fun _ _ => rfl)).mono ?_
  rintro _ s15 ⟨rfl, z30⟩
  have gS : Ext w21 s15 := Ext.trans gS z30
  (try go_wp2_with fail)
  refine hK.out _ _ (fun _ => gS) ?_
  clear hK K
  (try simp only [Act.put, List.getElem_toArray, List.getElem_cons_succ, List.getElem_cons_zero, List.setIfInBounds_toArray, List.set_cons_zero, List.set_cons_succ])
  refine wpAnyG_take 31 (v := ?_) rfl (by kernel_rfl) (by kernel_rfl) (by kernel_rfl) (by kernel_rfl) (by rfl) (by kernel_rfl) (fun _ _ _ h => h) (by rfl) (fun w' hw' => ?_) gS ?_
  rotate_left
  focus (go_simp; (try with_reducible rfl); done)
  (try simp only [Act.put, List.getElem_toArray, List.getElem_cons_succ, List.getElem_cons_zero, List.setIfInBounds_toArray, List.set_cons_zero, List.set_cons_succ])
  refine wpAnyG_take 32 (v := ?_) rfl (by kernel_rfl) (by kernel_rfl) (by kernel_rfl) (by kernel_rfl) (by rfl) (by kernel_rfl) (fun _ _ _ h => h) (by rfl) (fun w' hw' => ?_) gS ?_
  rotate_left
  focus (go_simp; (try with_reducible rfl); done)
  (try simp only [Act.put, List.getElem_toArray, List.getElem_cons_succ, List.getElem_cons_zero, List.setIfInBounds_toArray, List.set_cons_zero, List.set_cons_succ])
  refine wpAnyG_take 33 (v := ?_) rfl (by kernel_rfl) (by kernel_rfl) (by kernel_rfl) (by kernel_rfl) (by rfl) (by kernel_rfl) (fun _ _ _ h => h) (by rfl) (fun w' hw' => ?_) gS ?_
  rotate_left
  focus (go_simp; (try with_reducible rfl); done)
  (try simp only [Act.put, List.getElem_toArray, List.getElem_cons_succ, List.getElem_cons_zero, List.setIfInBounds_toArray, List.set_cons_zero, List.set_cons_succ])
  refine wpAnyG_two 34 36 (by kernel_rfl) rfl rfl (by rfl) (by rfl) (fun K hK => ?_) (fun K hK => ?_)
  · (try simp only [List.getElem_toArray, List.getElem_cons_succ, List.getElem_cons_zero])
    go_simp
    have gS : Ext w21 (s15.alloc (.cells #[.int .i64 1, .int .i64 0] 3)) := ext_alloc gS _
    have hI34 := ints2 s15 1 0
    generalize s15.alloc (.cells #[.int .i64 1, .int .i64 0] 3) = s16 at *
    (try go_wp2_with fail)
    refine hK.out _ _ (fun _ => gS) ?_
    clear hK K
    (try simp only [Act.put, List.getElem_toArray, List.getElem_cons_succ, List.getElem_cons_zero, List.setIfInBounds_toArray, List.set_cons_zero, List.set_cons_succ])
    refine wpAnyG_two 35 36 (by kernel_rfl) rfl rfl (by rfl) (by rfl) (fun K hK => ?_) (fun K hK => ?_)
    · (try simp only [List.getElem_toArray, List.getElem_cons_succ, List.getElem_cons_zero])
      go_simp
      go_at_call 40
      refine (of_2 hI34 (by decide)).mono ?_
      rintro _ s17 ⟨D35, e35, rfl, h35, z35⟩
      have gS : Ext w21 s17 := Ext.trans gS z35
      (try go_wp2_with fail)
      refine hK.out _ _ (fun _ => gS) ?_
      clear hK K
      (try simp only [Act.put, List.getElem_toArray, List.getElem_cons_succ, List.getElem_cons_zero, List.setIfInBounds_toArray, List.set_cons_zero, List.set_cons_succ])
      refine wpAnyG_one 36 (by kernel_rfl) rfl (by rfl) (fun K hK => ?_)
      (try simp only [List.getElem_toArray, List.getElem_cons_succ, List.getElem_cons_zero])
      go_simp
      have gS : Ext w21 (s17.alloc (.cells #[.int .i64 0, .int .i64 1] 3)) := ext_alloc gS _
      have hI36 := ints2 s17 0 1
      have x36 : Ext s17 (s17.alloc (.cells #[.int .i64 0, .int .i64 1] 3)) := ext_alloc (Below.refl _ _) _
      generalize s17.alloc (.cells #[.int .i64 0, .int .i64 1] 3) = s18 at *
      (try go_wp2_with fail)
      refine hK.out _ _ (fun _ => gS) ?_
      clear hK K
      (try simp only [Act.put, List.getElem_toArray, List.getElem_cons_succ, List.getElem_cons_zero, List.setIfInBounds_toArray, List.set_cons_zero, List.set_cons_succ])
      refine wpAnyG_one 37 (by kernel_rfl) rfl (by rfl) (fun K hK => ?_)
      (try simp only [List.getElem_toArray, List.getElem_cons_succ, List.getElem_cons_zero])
      go_simp
      go_at_call 40
      refine (of_2 hI36 (by decide)).mono ?_
      rintro _ s19 ⟨D37, e37, rfl, h37, z37⟩
      have gS : Ext w21 s19 := Ext.trans gS z37
      (try go_wp2_with fail)
      refine hK.out _ _ (fun _ => gS) ?_
      clear hK K
      (try simp only [Act.put, List.getElem_toArray, List.getElem_cons_succ, List.getElem_cons_zero, List.setIfInBounds_toArray, List.set_cons_zero, List.set_cons_succ])
      refine wpAnyG_one 38 (by kernel_rfl) rfl (by rfl) (fun K hK => ?_)
      (try simp only [List.getElem_toArray, List.getElem_cons_succ, List.getElem_cons_zero])
      go_simp
      have gS : Ext w21 (s19.alloc (.cells #[.slice D35 2 e35, .slice D37 2 e37] 39)) := ext_alloc gS _
      have hE2 := emat2 (h35.below (x36.trans z37)) h37
      generalize s19.alloc (.cells #[.slice D35 2 e35, .slice D37 2 e37] 39) = s20 at *
      (try go_wp2_with fail)
      refine hK.out _ _ (fun _ => gS) ?_
      clear hK K
      (try simp only [Act.put, List.getElem_toArray, List.getElem_cons_succ, List.getElem_cons_zero, List.setIfInBounds_toArray, List.set_cons_zero, List.set_cons_succ])
      refine wpAnyG_one 39 (by kernel_rfl) rfl (by rfl) (fun K hK => ?_)
      (try simp only [List.getElem_toArray, List.getElem_cons_succ, List.getElem_cons_zero])
      go_simp
      go_at_call 19
      refine (ematrix_same (HR.out _ gS) hE2 (fun _ _ _ _ => rfl) (by omega)).mono ?_
      rintro _ s21 ⟨rfl, z39⟩
      have gS : Ext w21 s21 := Ext.trans gS z39
      have gR := gS
      (try go_wp2_with fail)
      refine hK.out _ _ (fun _ => gS) ?_
      clear hK K
      (try simp only [Act.put, List.getElem_toArray, List.getElem_cons_succ, List.getElem_cons_zero, List.setIfInBounds_toArray, List.set_cons_zero, List.set_cons_succ])
      refine wpAnyG_take 40 (v := ?_) rfl (by kernel_rfl) (by kernel_rfl) (by kernel_rfl) (by kernel_rfl) (by rfl) (by kernel_rfl) (fun _ _ _ h => h) (by rfl) (fun w' hw' => ?_) gS ?_
      rotate_left
      focus (go_simp; (try with_reducible rfl); done)
      (try simp only [Act.put, List.getElem_toArray, List.getElem_cons_succ, List.getElem_cons_zero, List.setIfInBounds_toArray, List.set_cons_zero, List.set_cons_succ])
      refine wpAnyG_one 41 (by kernel_rfl) rfl (by rfl) (fun K hK => ?_)
      (try simp only [List.getElem_toArray, List.getElem_cons_succ, List.getElem_cons_zero])
      go_simp
      refine hK.out _ _ (fun h => absurd h (by decide)) ?_
      clear hK K
      (try simp only [Act.put, List.getElem_toArray, List.getElem_cons_succ, List.getElem_cons_zero, List.setIfInBounds_toArray, List.set_cons_zero, List.set_cons_succ])
      refine wpAnyG_done (by kernel_rfl) ?_ _
      go_wp2
      go_ret
      exact ⟨rfl, eW.trans gR⟩
    · (try simp only [List.getElem_toArray, List.getElem_cons_succ, List.getElem_cons_zero])
      go_simp
      have gS : Ext w21 (s16.alloc (.cells #[.int .i64 0, .int .i64 1] 3)) := ext_alloc gS _
      have hI36 := ints2 s16 0 1
      have hI34 := hI34.below (ext_alloc (Below.refl _ _) (.cells #[.int .i64 0, .int .i64 1] 3))
      generalize s16.alloc (.cells #[.int .i64 0, .int .i64 1] 3) = s17 at *
      (try go_wp2_with fail)
      refine hK.out _ _ (fun _ => gS) ?_
      clear hK K
      (try simp only [Act.put, List.getElem_toArray, List.getElem_cons_succ, List.getElem_cons_zero, List.setIfInBounds_toArray, List.set_cons_zero, List.set_cons_succ])
      refine wpAnyG_one 35 (by kernel_rfl) rfl (by rfl) (fun K hK => ?_)
      (try simp only [List.getElem_toArray, List.getElem_cons_succ, List.getElem_cons_zero])
      go_simp
      go_at_call 40
      refine (of_2 hI34 (by decide)).mono ?_
      rintro _ s18 ⟨D35, e35, rfl, h35, z35⟩
      have gS : Ext w21 s18 := Ext.trans gS z35
      (try go_wp2_with fail)
      refine hK.out _ _ (fun _ => gS) ?_
      clear hK K
      (try simp only [Act.put, List.getElem_toArray, List.getElem_cons_succ, List.getElem_cons_zero, List.setIfInBounds_toArray, List.set_cons_zero, List.set_cons_succ])
      refine wpAnyG_one 37 (by kernel_rfl) rfl (by rfl) (fun K hK => ?_)
      (try simp only [List.getElem_toArray, List.getElem_cons_succ, List.getElem_cons_zero])
      go_simp
      go_at_call 40
      refine (of_2 (hI36.below z35) (by decide)).mono ?_
      rintro _ s19 ⟨D37, e37, rfl, h37, z37⟩
      have gS : Ext w21 s19 := Ext.trans gS z37
      (try go_wp2_with fail)
      refine hK.out _ _ (fun _ => gS) ?_
      clear hK K
      (try simp only [Act.put, List.getElem_toArray, List.getElem_cons_succ, List.getElem_cons_zero, List.setIfInBounds_toArray, List.set_cons_zero, List.set_cons_succ])
      refine wpAnyG_one 38 (by kernel_rfl) rfl (by rfl) (fun K hK => ?_)
      (try simp only [List.getElem_toArray, List.getElem_cons_succ, List.getElem_cons_zero])
      go_simp
      have gS : Ext w21 (s19.alloc (.cells #[.slice D35 2 e35, .slice D37 2 e37] 39)) := ext_alloc gS _
      have hE2 := emat2 (h35.below z37) h37
      generalize s19.alloc (.cells #[.slice D35 2 e35, .slice D37 2 e37] 39) = s20 at *
      (try go_wp2_with fail)
      refine hK.out _ _ (fun _ => gS) ?_
      clear hK K
      (try simp only [Act.put, List.getElem_toArray, List.getElem_cons_succ, List.getElem_cons_zero, List.setIfInBounds_toArray, List.set_cons_zero, List.set_cons_succ])
      refine wpAnyG_one 39 (by kernel_rfl) rfl (by rfl) (fun K hK => ?_)
      (try simp only [List.getElem_toArray, List.getElem_cons_succ, List.getElem_cons_zero])
      go_simp
      go_at_call 19
      refine (ematrix_same (HR.out _ gS) hE2 (fun _ _ _ _ => rfl) (by omega)).mono ?_
      rintro _ s21 ⟨rfl, z39⟩
      have gS : Ext w21 s21 := Ext.trans gS z39
      have gR := gS
      (try go_wp2_with fail)
      refine hK.out _ _ (fun _ => gS) ?_
      clear hK K
      (try simp only [Act.put, List.getElem_toArray, List.getElem_cons_succ, List.getElem_cons_zero, List.setIfInBounds_toArray, List.set_cons_zero, List.set_cons_succ])
      refine wpAnyG_take 40 (v := ?_) rfl (by kernel_rfl) (by kernel_rfl) (by kernel_rfl) (by kernel_rfl) (by rfl) (by kernel_rfl) (fun _ _ _ h => h) (by rfl) (fun w' hw' => ?_) gS ?_
      rotate_left
      focus (go_simp; (try with_reducible rfl); done)
      (try simp only [Act.put, List.getElem_toArray, List.getElem_cons_succ, List.getElem_cons_zero, List.setIfInBounds_toArray, List.set_cons_zero, List.set_cons_succ])
      refine wpAnyG_one 41 (by kernel_rfl) rfl (by rfl) (fun K hK => ?_)
      (try simp only [List.getElem_toArray, List.getElem_cons_succ, List.getElem_cons_zero])
      go_simp
      refine hK.out _ _ (fun h => absurd h (by decide)) ?_
      clear hK K
      (try simp only [Act.put, List.getElem_toArray, List.getElem_cons_succ, List.getElem_cons_zero, List.setIfInBounds_toArray, List.set_cons_zero, List.set_cons_succ])
      refine wpAnyG_done (by kernel_rfl) ?_ _
      go_wp2
      go_ret
      exact ⟨rfl, eW.trans gR⟩
  · (try simp only [List.getElem_toArray, List.getElem_cons_succ, List.getElem_cons_zero])
    go_simp
    have gS : Ext w21 (s15.alloc (.cells #[.int .i64 0, .int .i64 1] 3)) := ext_alloc gS _
    have hI36 := ints2 s15 0 1
    generalize s15.alloc (.cells #[.int .i64 0, .int .i64 1] 3) = s16 at *
    (try go_wp2_with fail)
    refine hK.out _ _ (fun _ => gS) ?_
    clear hK K
    (try simp only [Act.put, List.getElem_toArray, List.getElem_cons_succ, List.getElem_cons_zero, List.setIfInBounds_toArray, List.set_cons_zero, List.set_cons_succ])
    refine wpAnyG_one 34 (by kernel_rfl) rfl (by rfl) (fun K hK => ?_)
    (try simp only [List.getElem_toArray, List.getElem_cons_succ, List.getElem_cons_zero])
    go_simp
    have gS : Ext w21 (s16.alloc (.cells #[.int .i64 1, .int .i64 0] 3)) := ext_alloc gS _
    have hI34 := ints2 s16 1 0
    have hI36 := hI36.below (ext_alloc (Below.refl _ _) (.cells #[.int .i64 1, .int .i64 0] 3))
    generalize s16.alloc (.cells #[.int .i64 1, .int .i64 0] 3) = s17 at *
    (try go_wp2_with fail)
    refine hK.out _ _ (fun _ => gS) ?_
    clear hK K
    (try simp only [Act.put, List.getElem_toArray, List.getElem_cons_succ, List.getElem_cons_zero, List.setIfInBounds_toArray, List.set_cons_zero, List.set_cons_succ])
    refine wpAnyG_one 35 (by kernel_rfl) rfl (by rfl) (fun K hK => ?_)
    (try simp only [List.getElem_toArray, List.getElem_cons_succ, List.getElem_cons_zero])
    go_simp
    go_at_call 40
    refine (of_2 hI34 (by decide)).mono ?_
    rintro _ s18 ⟨D35, e35, rfl, h35, z35⟩
    have gS : Ext w21 s18 := Ext.trans gS z35
    (try go_wp2_with fail)
    refine hK.out _ _ (fun _ => gS) ?_
    clear hK K
    (try simp only [Act.put, List.getElem_toArray, List.getElem_cons_succ, List.getElem_cons_zero, List.setIfInBounds_toArray, List.set_cons_zero, List.set_cons_succ])
    refine wpAnyG_one 37 (by kernel_rfl) rfl (by rfl) (fun K hK => ?_)
    (try simp only [List.getElem_toArray, List.getElem_cons_succ, List.getElem_cons_zero])
    go_simp
    go_at_call 40
    refine (of_2 (hI36.below z35) (by decide)).mono ?_
    rintro _ s19 ⟨D37, e37, rfl, h37, z37⟩
    have gS : Ext w21 s19 := Ext.trans gS z37
    (try go_wp2_with fail)
    refine hK.out _ _ (fun _ => gS) ?_
    clear hK K
    (try simp only [Act.put, List.getElem_toArray, List.getElem_cons_succ, List.getElem_cons_zero, List.setIfInBounds_toArray, List.set_cons_zero, List.set_cons_succ])
    refine wpAnyG_one 38 (by kernel_rfl) rfl (by rfl) (fun K hK => ?_)
    (try simp only [List.getElem_toArray, List.getElem_cons_succ, List.getElem_cons_zero])
    go_simp
    have gS : Ext w21 (s19.alloc (.cells #[.slice D35 2 e35, .slice D37 2 e37] 39)) := ext_alloc gS _
    have hE2 := emat2 (h35.below z37) h37
    generalize s19.alloc (.cells #[.slice D35 2 e35, .slice D37 2 e37] 39) = s20 at *
    (try go_wp2_with fail)
    refine hK.out _ _ (fun _ => gS) ?_
    clear hK K
    (try simp only [Act.put, List.getElem_toArray, List.getElem_cons_succ, List.getElem_cons_zero, List.setIfInBounds_toArray, List.set_cons_zero, List.set_cons_succ])
    refine wpAnyG_one 39 (by kernel_rfl) rfl (by rfl) (fun K hK => ?_)
    (try simp only [List.getElem_toArray, List.getElem_cons_succ, List.getElem_cons_zero])
    go_simp
    go_at_call 19
    refine (ematrix_same (HR.out _ gS) hE2 (fun _ _ _ _ => rfl) (by omega)).mono ?_
    rintro _ s21 ⟨rfl, z39⟩
    have gS : Ext w21 s21 := Ext.trans gS z39
    have gR := gS
    (try go_wp2_with fail)
    refine hK.out _ _ (fun _ => gS) ?_
    clear hK K
    (try simp only [Act.put, List.getElem_toArray, List.getElem_cons_succ, List.getElem_cons_zero, List.setIfInBounds_toArray, List.set_cons_zero, List.set_cons_succ])
    refine wpAnyG_take 40 (v := ?_) rfl (by kernel_rfl) (by kernel_rfl) (by kernel_rfl) (by kernel_rfl) (by rfl) (by kernel_rfl) (fun _ _ _ h => h) (by rfl) (fun w' hw' => ?_) gS ?_
    rotate_left
    focus (go_simp; (try with_reducible rfl); done)
    (try simp only [Act.put, List.getElem_toArray, List.getElem_cons_succ, List.getElem_cons_zero, List.setIfInBounds_toArray, List.set_cons_zero, List.set_cons_succ])
    refine wpAnyG_one 41 (by kernel_rfl) rfl (by rfl) (fun K hK => ?_)
    (try simp only [List.getElem_toArray, List.getElem_cons_succ, List.getElem_cons_zero])
    go_simp
    refine hK.out _ _ (fun h => absurd h (by decide)) ?_
    clear hK K
    (try simp only [Act.put, List.getElem_toArray, List.getElem_cons_succ, List.getElem_cons_zero, List.setIfInBounds_toArray, List.set_cons_zero, List.set_cons_succ])
    refine wpAnyG_done (by kernel_rfl) ?_ _
    go_wp2
    go_ret
    exact ⟨rfl, eW.trans gR⟩

end Go.Proofs.Ytmfigiifflljpaa
