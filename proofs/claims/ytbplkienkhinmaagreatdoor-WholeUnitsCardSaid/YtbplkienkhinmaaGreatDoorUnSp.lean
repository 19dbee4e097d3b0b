/- Units of weight: Spans. -/
import Derived.Test.YtbplkienkhinmaaGreatDoorUnS
set_option linter.unusedVariables false
set_option linter.unusedSimpArgs false
set_option maxRecDepth 100000
namespace Go.Proofs.YtbplkienkhinmaaGreatDoor
open Go.RowKit Num

theorem SixC.new (w : World) (x y z x' y' z' : Value) (t : TypeId) : SixC (w.alloc (.cells #[x, y, z, x', y', z'] t)) w.heap.size 0 x y z x' y' z' := by
  refine ⟨?_, ?_, ?_, ?_, ?_, ?_⟩ <;> simp [go_sem]
theorem SixC.zero {w : World} {b : Nat} {x y z x' y' z' : Value} (h : SixC w b 0 x y z x' y' z') : w.cell? ⟨b, 0, none⟩ = some x ∧ w.cell? ⟨b, 1, none⟩ = some y ∧ w.cell? ⟨b, 2, none⟩ = some z ∧ w.cell? ⟨b, 3, none⟩ = some x' ∧ w.cell? ⟨b, 4, none⟩ = some y' ∧ w.cell? ⟨b, 5, none⟩ = some z' := h
theorem lohi_fb {w tol : Int} (h1 : 1 ≤ w) (h2 : w ≤ 200000) (h3 : 0 ≤ tol) (h4 : tol ≤ 5000) {k : Int} (h5 : -9223372036854775808 ≤ k ∧ k ≤ 9223372036854775807) : FB (loQ w tol k) 3 ∧ FB (hiQ w tol k) 3 :=
  ⟨fb_i64 (by omega) h5, fb_i64 (by omega) h5⟩
theorem spansTo_fb {w tol : Int} {m : Nat} (h1 : 1 ≤ w) (h2 : w ≤ 200000) (h3 : 0 ≤ tol) (h4 : tol ≤ 5000) (h5 : m ≤ 24) : ∀ j, j ≤ m → AllS (fun q => FB q 3) (spansTo w tol m j)
  | 0, _ => fun p hp => by simp [spansTo] at hp
  | j + 1, hj => spStep_all (spansTo_fb h1 h2 h3 h4 h5 j (by omega)) (lohi_fb h1 h2 h3 h4 (by omega)).1 (lohi_fb h1 h2 h3 h4 (by omega)).2
theorem cmp_le {p q : Rat} : cmpQ p q ≤ 0 ↔ p ≤ q := by
  have := cmpQ_pos p q
  constructor
  · intro h
    have : ¬ q < p := fun h2 => by have := (cmpQ_pos p q).2 h2; omega
    grind
  · intro h
    have : ¬ 0 < cmpQ p q := fun h2 => by have := (cmpQ_pos p q).1 h2; grind
    omega

set_option maxHeartbeats 8000000 in
theorem uspans {wt tol : Int} {m : Nat} {w : World} (h1 : 1 ≤ wt) (h2 : wt ≤ 200000) (h3 : 0 ≤ tol) (h4 : tol ≤ 5000) (h5 : 1 ≤ m) (h6 : m ≤ 24) :
    Calls Tryz.prog 14 #[.int .i64 wt, .int .i64 tol, .int .i64 m] w (GivesSp w (spansL wt tol m)) := by
  obtain ⟨i0, hi, hz0, hz1, hz2⟩ := info_parts info_span
  have HW := Lib.hid (fun (w' : World) => uweight_t (w := w') h1 h2)
  have HL := Lib.hid (fun (w' : World) => ulimits_ok (m := m) (w := w') h3 h4 (by omega) (by omega))
  have HFB := Lib.hid (spansTo_fb h1 h2 h3 h4 h6)
  have HLEN := Lib.hid (spansTo_length wt tol m)
  obtain ⟨mx, hmx⟩ : ∃ mx : Int, mx = max (wt - tol) 1 := ⟨_, rfl⟩
  have hmr : 1 ≤ mx ∧ mx ≤ 200000 := by omega
  have HLH := Lib.hid (fun k (hk : -9223372036854775808 ≤ k ∧ k ≤ 9223372036854775807) => lohi_fb (w := wt) (tol := tol) (k := k) h1 h2 h3 h4 hk)
  have hm1 : (if wt - tol < 1 then 1 else wt - tol) = mx := by rw [hmx]; split <;> omega
  have HMX := Lib.hid hmx
  clear hmx
  go_enter Tryz.func14, Tryz.ntmps14
  go_wp2_with (first
    | (go_at_call 35; (with_reducible refine (HW.out w).mono ?_); rintro e w1 ⟨rfl, hw1⟩; obtain rfl : w = w1 := hw1.symm)
    | (go_at_call 20; (with_reducible refine (HL.out w).mono ?_); rintro e w2 ⟨rfl, hw2⟩; obtain rfl : w = w2 := hw2.symm))
  go_loopw [9, 10] (fun ov kv wr => ∃ (j : Nat) (ts : List Fc), j ≤ m ∧ kv = .int .i64 ((m : Int) - j) ∧ OwnS w.heap.size wr ov ts (spansTo wt tol m j) ∧ Ext w wr) (fun _ kv _ => (intOf kv).toNat)
  case atStart => exact ⟨0, [], Nat.zero_le _, by simp, OwnS.nil_ _ _, Below.refl _ _⟩
  case round =>
    obtain ⟨j, ts, hj, rfl, hown, hx⟩ := hrel
    by_cases hjm : j < m
    · obtain ⟨kk, hkk⟩ : ∃ kk : Int, kk = (m : Int) - j := ⟨_, rfl⟩
      have hk1 : 1 ≤ kk := by omega
      have hk2 : kk ≤ 24 := by omega
      have HKK := Lib.hid hkk
      rw [← hkk]
      clear hkk
      have HC1 := Lib.hid (fun (w' : World) => fof_n (n := mx) (d := kk) (w := w') (by omega) (by omega))
      have HC2 := Lib.hid (fun (w' : World) => fof_n (n := wt + tol) (d := kk) (w := w') (by omega) (by omega))
      have HLO : ((mx : Int) : Rat) / (kk : Rat) = loQ wt tol kk := by rw [HMX.out]; rfl
      have HHI : ((wt + tol : Int) : Rat) / (kk : Rat) = hiQ wt tol kk := rfl
      have HLO := Lib.hid HLO
      have HHI := Lib.hid HHI
      have HOWN := Lib.hid hown
      clear hown
      go_wp2_with fail
      refine (HC1.out _).mono ?_
      rintro e w1 ⟨b1, A1, k1, c1, A1', k1', c1', rfl, f1, y1, n1, n1'⟩
      rw [HLO.out] at f1
      go_wp2_with fail
      refine (HC2.out _).mono ?_
      rintro e w2 ⟨b2, A2, k2, c2, A2', k2', c2', rfl, f2, y2, n2, n2'⟩
      rw [HHI.out] at f2
      go_upto_region 11 with (fail)
      have hS := SixC.new w2 (.bool b1) (.slice A1 k1 c1) (.slice A1' k1' c1') (.bool b2) (.slice A2 k2 c2) (.slice A2' k2' c2') 40
      have F1 := (f1.below y2).below (ext_alloc (Below.refl _ w2) (.cells #[.bool b1, .slice A1 k1 c1, .slice A1' k1' c1', .bool b2, .slice A2 k2 c2, .slice A2' k2' c2'] 40))
      have F2 := f2.below (ext_alloc (Below.refl _ w2) (.cells #[.bool b1, .slice A1 k1 c1, .slice A1' k1' c1', .bool b2, .slice A2 k2 c2, .slice A2' k2' c2'] 40))
      have X3 : Ext wr (w2.alloc (.cells #[.bool b1, .slice A1 k1 c1, .slice A1' k1' c1', .bool b2, .slice A2 k2 c2, .slice A2' k2' c2'] 40)) := ext_alloc (y1.trans y2) _
      have hBl : wr.heap.size ≤ w2.heap.size := (y1.trans y2).size
      have hBs : w2.heap.size < (w2.alloc (.cells #[.bool b1, .slice A1 k1 c1, .slice A1' k1' c1', .bool b2, .slice A2 k2 c2, .slice A2' k2' c2'] 40)).heap.size := by simp
      have n2 := n2.mono y1.size
      have n2' := n2'.mono y1.size
      generalize w2.alloc (.cells #[.bool b1, .slice A1 k1 c1, .slice A1' k1' c1', .bool b2, .slice A2 k2 c2, .slice A2' k2' c2'] 40) = w3 at *
      generalize w2.heap.size = B at *
      clear f1 f2 y1 y2
      have hown := HOWN.out
      have HF1 := Lib.hid (fun (w' : World) (h : Ext w3 w') => F1.below h)
      have HF2 := Lib.hid (fun (w' : World) (h : Ext w3 w') => F2.below h)
      have HX3 := Lib.hid X3
      have HBW := Lib.hid (show w.heap.size ≤ w3.heap.size from by have := hx.size; omega)
      have HA1 := Lib.hid (Far.of_new (v := u9) n1 fun g hg => (hown.lt hg).2)
      have HA1' := Lib.hid (Far.of_new (v := u9) n1' fun g hg => (hown.lt hg).2)
      have HA2 := Lib.hid (Far.of_new (v := u9) n2 fun g hg => (hown.lt hg).2)
      have HA2' := Lib.hid (Far.of_new (v := u9) n2' fun g hg => (hown.lt hg).2)
      have HN2 := Lib.hid (And.intro n2 n2')
      have hT : spansTo wt tol m (j + 1) = spStep (spansTo wt tol m j) (loQ wt tol kk) (hiQ wt tol kk) := by rw [HKK.out]; rfl
      have hfb := HFB.out j hj
      have hln := HLEN.out j
      obtain ⟨ss, hss⟩ : ∃ ss, ss = spansTo wt tol m j := ⟨_, rfl⟩
      rw [← hss] at hT hfb hln hown
      have HB3 := Lib.hid (fun (w' : World) (h : Ext w3 w') => hS.below h)
      clear hss F1 F2 n1 n1' n2 n2' X3 HOWN hS
      rcases List.eq_nil_or_concat ss with rfl | ⟨ini, p, rfl⟩
      · have HT := Lib.hid (show spansTo wt tol m (j + 1) = [] ++ [(loQ wt tol kk, hiQ wt tol kk)] from hT)
        have HOX := Lib.hid (hown.ext HX3.out)
        have HSL := Lib.hid (show ([] : List (Rat × Rat)).length ≤ 24 from by simp)
        obtain ⟨A, c, rfl, _, _⟩ := hown.spans.form
        clear hown hT hfb hln
        have g3 : Ext w3 w3 := Below.refl _ _
        go_upto_region 12 with (fail)
        refine wp_region_G (fun w' => Ext w3 w') [13] (by kernel_rfl) ?_
        have gS : Ext w3 w3.drew := (Below.refl _ _).drew
        refine wpAnyG_take 0 (v := ?_) rfl (by kernel_rfl) (by kernel_rfl) (by kernel_rfl) (by kernel_rfl) (by rfl) (by kernel_rfl) (fun _ _ _ h => h) (by rfl) (fun w' hw' => ?_) gS ?_
        rotate_left
        focus (go_simp; (try with_reducible rfl); done)
        (try simp only [Act.put, List.getElem_toArray, List.getElem_cons_succ, List.getElem_cons_zero, List.setIfInBounds_toArray, List.set_cons_zero, List.set_cons_succ])
        refine wpAnyG_take 1 (v := ?_) rfl (by kernel_rfl) (by kernel_rfl) (by kernel_rfl) (by kernel_rfl) (by rfl) (by kernel_rfl) (fun _ _ _ h => h) (by rfl) (fun w' hw' => ?_) gS ?_
        rotate_left
        focus (go_simp; (try with_reducible rfl); done)
        (try simp only [Act.put, List.getElem_toArray, List.getElem_cons_succ, List.getElem_cons_zero, List.setIfInBounds_toArray, List.set_cons_zero, List.set_cons_succ])
        refine wpAnyG_take 2 (v := ?_) rfl (by kernel_rfl) (by kernel_rfl) (by kernel_rfl) (by kernel_rfl) (by rfl) (by kernel_rfl) (fun _ _ _ h => h) (by rfl) (fun w' hw' => ?_) gS ?_
        rotate_left
        focus (go_simp; (try with_reducible rfl); done)
        (try simp only [Act.put, List.getElem_toArray, List.getElem_cons_succ, List.getElem_cons_zero, List.setIfInBounds_toArray, List.set_cons_zero, List.set_cons_succ])
        refine wpAnyG_skip 3 rfl (by kernel_rfl) (by kernel_rfl) (by kernel_rfl) (by kernel_rfl) (by rfl) (by kernel_rfl) (fun _ _ _ h => h) (by rfl) gS ?_
        (try simp only [Act.put, List.getElem_toArray, List.getElem_cons_succ, List.getElem_cons_zero, List.setIfInBounds_toArray, List.set_cons_zero, List.set_cons_succ])
        refine wpAnyG_skip 4 rfl (by kernel_rfl) (by kernel_rfl) (by kernel_rfl) (by kernel_rfl) (by rfl) (by kernel_rfl) (fun _ _ _ h => h) (by rfl) gS ?_
        (try simp only [Act.put, List.getElem_toArray, List.getElem_cons_succ, List.getElem_cons_zero, List.setIfInBounds_toArray, List.set_cons_zero, List.set_cons_succ])
        refine wpAnyG_skip 5 rfl (by kernel_rfl) (by kernel_rfl) (by kernel_rfl) (by kernel_rfl) (by rfl) (by kernel_rfl) (fun _ _ _ h => h) (by rfl) gS ?_
        (try simp only [Act.put, List.getElem_toArray, List.getElem_cons_succ, List.getElem_cons_zero, List.setIfInBounds_toArray, List.set_cons_zero, List.set_cons_succ])
        refine wpAnyG_skip 6 rfl (by kernel_rfl) (by kernel_rfl) (by kernel_rfl) (by kernel_rfl) (by rfl) (by kernel_rfl) (fun _ _ _ h => h) (by rfl) gS ?_
        (try simp only [Act.put, List.getElem_toArray, List.getElem_cons_succ, List.getElem_cons_zero, List.setIfInBounds_toArray, List.set_cons_zero, List.set_cons_succ])
        refine wpAnyG_skip 7 rfl (by kernel_rfl) (by kernel_rfl) (by kernel_rfl) (by kernel_rfl) (by rfl) (by kernel_rfl) (fun _ _ _ h => h) (by rfl) gS ?_
        (try simp only [Act.put, List.getElem_toArray, List.getElem_cons_succ, List.getElem_cons_zero, List.setIfInBounds_toArray, List.set_cons_zero, List.set_cons_succ])
        refine wpAnyG_skip 8 rfl (by kernel_rfl) (by kernel_rfl) (by kernel_rfl) (by kernel_rfl) (by rfl) (by kernel_rfl) (fun _ _ _ h => h) (by rfl) gS ?_
        (try simp only [Act.put, List.getElem_toArray, List.getElem_cons_succ, List.getElem_cons_zero, List.setIfInBounds_toArray, List.set_cons_zero, List.set_cons_succ])
        refine wpAnyG_skip 9 rfl (by kernel_rfl) (by kernel_rfl) (by kernel_rfl) (by kernel_rfl) (by rfl) (by kernel_rfl) (fun _ _ _ h => h) (by rfl) gS ?_
        (try simp only [Act.put, List.getElem_toArray, List.getElem_cons_succ, List.getElem_cons_zero, List.setIfInBounds_toArray, List.set_cons_zero, List.set_cons_succ])
        refine wpAnyG_skip 10 rfl (by kernel_rfl) (by kernel_rfl) (by kernel_rfl) (by kernel_rfl) (by rfl) (by kernel_rfl) (fun _ _ _ h => h) (by rfl) gS ?_
        (try simp only [Act.put, List.getElem_toArray, List.getElem_cons_succ, List.getElem_cons_zero, List.setIfInBounds_toArray, List.set_cons_zero, List.set_cons_succ])
        refine wpAnyG_skip 11 rfl (by kernel_rfl) (by kernel_rfl) (by kernel_rfl) (by kernel_rfl) (by rfl) (by kernel_rfl) (fun _ _ _ h => h) (by rfl) gS ?_
        (try simp only [Act.put, List.getElem_toArray, List.getElem_cons_succ, List.getElem_cons_zero, List.setIfInBounds_toArray, List.set_cons_zero, List.set_cons_succ])
        refine wpAnyG_skip 12 rfl (by kernel_rfl) (by kernel_rfl) (by kernel_rfl) (by kernel_rfl) (by rfl) (by kernel_rfl) (fun _ _ _ h => h) (by rfl) gS ?_
        (try simp only [Act.put, List.getElem_toArray, List.getElem_cons_succ, List.getElem_cons_zero, List.setIfInBounds_toArray, List.set_cons_zero, List.set_cons_succ])
        refine wpAnyG_one 13 (by kernel_rfl) rfl (by rfl) (fun K hK => ?_)
        (try simp only [List.getElem_toArray, List.getElem_cons_succ, List.getElem_cons_zero])
        go_simp
        refine hK.out _ _ (fun h => absurd h (by decide)) ?_
        clear hK K
        (try simp only [Act.put, List.getElem_toArray, List.getElem_cons_succ, List.getElem_cons_zero, List.setIfInBounds_toArray, List.set_cons_zero, List.set_cons_succ])
        refine wpAnyG_done (by kernel_rfl) ?_ _
        have gD : Ext w3 w3.drew := (Below.refl _ _).drew
        obtain ⟨e0, e1, e2, e3, e4, e5⟩ := (HB3.out _ gD).zero
        go_wp2_with (at_builtin; refine wpList_append_mine _ (by rfl) (.tmp 62) (.tmp 64) 32 (by rfl) w.heap.size 40 i0 (.agg #[.bool false, .slice none 0 0, .slice none 0 0, .bool false, .slice none 0 0, .slice none 0 0]) 6 112 Tryz.underlying32 hi hz0 hz1 hz2 rfl (by omega) _ _ _ (by rfl) (HOX.out.ext (ext_alloc gD _)).1.1 ⟨w3.drew.heap.size, 0, none⟩ 1 1 [.bool b1, .slice A1 k1 c1, .slice A1' k1' c1', .bool b2, .slice A2 k2 c2, .slice A2' k2' c2'] (by rfl) rfl (cell_six w3.drew _ _ _ _ _ _ _) (by simp [Value.oneCell']) (by have := HSL.out; unfold maxLen; omega) (by have := HSL.out; omega) (by have := HBW.out; have := (gD : Ext w3 w3.drew).size; simp; omega) ?_; intro v8 w8 ho8 hg8 hw8)
        have hO8 : OwnS w.heap.size w8 v8 (ts ++ [⟨b1, .slice A1 k1 c1, .slice A1' k1' c1'⟩, ⟨b2, .slice A2 k2 c2, .slice A2' k2' c2'⟩]) (spansTo wt tol m (j + 1)) := by
          rw [HT.out]
          exact OwnS.push (p := (loQ wt tol kk, hiQ wt tol kk)) (t := ⟨b1, .slice A1 k1 c1, .slice A1' k1' c1'⟩) (u := ⟨b2, .slice A2 k2 c2, .slice A2' k2' c2'⟩) (HOX.out.ext (ext_alloc gD _)) (HF1.out _ (ext_alloc gD _)) (HF2.out _ (ext_alloc gD _)) HA1.out HA1'.out HA2.out HA2'.out ho8 hg8 hw8
        have hx8 : Ext w w8 := OwnS.ext_of HOX.out (hx.trans HX3.out) (ext_alloc gD _) hg8
        clear ho8 hg8 hw8
        go_roundw
        case rel => exact ⟨j + 1, _, by omega, by rw [HKK.out]; go_num, hO8, hx8⟩
        case measure => simp [intOf]; omega
      · rw [List.concat_eq_append] at *
        obtain ⟨n, hn⟩ : ∃ n, n = ini.length := ⟨_, rfl⟩
        have hlen : (ini ++ [p]).length = n + 1 := by rw [hn]; simp
        have HN := Lib.hid hn
        obtain ⟨g, c, rfl⟩ := hown.form_succ hlen
        have hpj : (ini ++ [p])[n]? = some p := by rw [hn]; simp
        obtain ⟨b', o', m1, A3, k3, c3, A4, k4, c4, m2, A5, k5, c5, A6, k6, c6, e, hbl, hsix, _, fp2⟩ := (hown.ext HX3.out).spans.at_ hpj
        injection e with e
        injection e with e1 e2
        subst e1 e2
        have HPF := Lib.hid (fun (w' : World) (h : Ext w3 w') => fp2.below h)
        have hfp := (hfb p (by simp)).2
        obtain ⟨z, hz⟩ : ∃ z, z = cmpQ (loQ wt tol kk) p.2 := ⟨_, rfl⟩
        have HCMP := Lib.hid (fun (w' : World) (h : Ext w3 w') => cmp_e (L := 3) (M := 3) (FracV.any (HF1.out _ h) (HLH.out kk (by omega)).1 (by omega)) (FracV.any (HPF.out _ h) hfp (by omega)) (by omega) hz.symm)
        have hi0 : (0 : Int) < (n : Int) + 1 := by omega
        have hi1 : (0 : Int) ≤ (n : Int) := by omega
        have hi2 : (n : Int) < (n : Int) + 1 := by omega
        have HS := Lib.hid (fun (w' : World) (h : Ext w3 w') => (⟨⟨(HB3.out _ h).1, (HB3.out _ h).2.1, (HB3.out _ h).2.2.1⟩, by have h6 := hsix.below h; rw [Nat.zero_add] at h6; exact ⟨h6.2.2.2.1, h6.2.2.2.2.1, h6.2.2.2.2.2⟩⟩ : (w'.cell? ⟨B, 0, none⟩ = some (.bool b1) ∧ w'.cell? ⟨B, 1, none⟩ = some (.slice A1 k1 c1) ∧ w'.cell? ⟨B, 2, none⟩ = some (.slice A1' k1' c1')) ∧ w'.cell? ⟨g, n * 6 + 3, none⟩ = some (.bool m2) ∧ w'.cell? ⟨g, n * 6 + 4, none⟩ = some (.slice A5 k5 c5) ∧ w'.cell? ⟨g, n * 6 + 5, none⟩ = some (.slice A6 k6 c6)))
        have HFZ := Lib.hid (fun (w' : World) (h : Ext w3 w') (k : Nat) => (((hown.ext HX3.out).ext h).frozen hlen k : w'.frozen? ⟨g, k, none⟩ = false))
        have hzle : z ≤ 0 ↔ loQ wt tol kk ≤ p.2 := by rw [hz]; exact cmp_le
        rw [spStep_snoc] at hT
        have HOW := Lib.hid (hown.ext HX3.out)
        have hgb := (hown.lt (g := g) rfl).1
        have hBg : B ≠ g := by have := (hown.lt (g := g) rfl).2; omega
        have HO0 := Lib.hid hown
        clear hz hfb fp2 hfp hbl hsix
        rw [hlen] at hln
        have HSN := Lib.hid (show n + 1 ≤ 24 from by omega)
        have hn24 : (n : Int) ≤ 24 := by omega
        have hwr : IntKind.i64.wrap (n : Int) = (n : Int) := wrap_in (by omega)
        clear hln hown hlen hpj hn
        by_cases hle : loQ wt tol kk ≤ p.2
        · have HT := Lib.hid (show spansTo wt tol m (j + 1) = ini ++ [(p.1, hiQ wt tol kk)] from by rw [hT, if_pos hle])
          have hz0' : z ≤ 0 := hzle.2 hle
          clear hT hzle hle
          go_upto_region 12 with (fail)
          refine wp_region_G (fun w' => Ext w3 w') [13] (by kernel_rfl) ?_
          have gS : Ext w3 w3.drew := (Below.refl _ _).drew
          refine wpAnyG_take 0 (v := ?_) rfl (by kernel_rfl) (by kernel_rfl) (by kernel_rfl) (by kernel_rfl) (by rfl) (by kernel_rfl) (fun _ _ _ h => h) (by rfl) (fun w' hw' => ?_) gS ?_
          rotate_left
          focus (go_simp; (try with_reducible rfl); done)
          (try simp only [Act.put, List.getElem_toArray, List.getElem_cons_succ, List.getElem_cons_zero, List.setIfInBounds_toArray, List.set_cons_zero, List.set_cons_succ])
          refine wpAnyG_take 1 (v := ?_) rfl (by kernel_rfl) (by kernel_rfl) (by kernel_rfl) (by kernel_rfl) (by rfl) (by kernel_rfl) (fun _ _ _ h => h) (by rfl) (fun w' hw' => ?_) gS ?_
          rotate_left
          focus (go_simp; (try with_reducible rfl); done)
          (try simp only [Act.put, List.getElem_toArray, List.getElem_cons_succ, List.getElem_cons_zero, List.setIfInBounds_toArray, List.set_cons_zero, List.set_cons_succ])
          refine wpAnyG_take 2 (v := ?_) rfl (by kernel_rfl) (by kernel_rfl) (by kernel_rfl) (by kernel_rfl) (by rfl) (by kernel_rfl) (fun _ _ _ h => h) (by rfl) (fun w' hw' => ?_) gS ?_
          rotate_left
          focus (go_simp; (try with_reducible rfl); done)
          (try simp only [Act.put, List.getElem_toArray, List.getElem_cons_succ, List.getElem_cons_zero, List.setIfInBounds_toArray, List.set_cons_zero, List.set_cons_succ])
          refine wpAnyG_take 3 (v := ?_) rfl (by kernel_rfl) (by kernel_rfl) (by kernel_rfl) (by kernel_rfl) (by rfl) (by kernel_rfl) (fun _ _ _ h => h) (by rfl) (fun w' hw' => ?_) gS ?_
          rotate_left
          focus (go_simp; (try with_reducible rfl); done)
          (try simp only [Act.put, List.getElem_toArray, List.getElem_cons_succ, List.getElem_cons_zero, List.setIfInBounds_toArray, List.set_cons_zero, List.set_cons_succ])
          refine wpAnyG_take 4 (v := ?_) rfl (by kernel_rfl) (by kernel_rfl) (by kernel_rfl) (by kernel_rfl) (by rfl) (by kernel_rfl) (fun _ _ _ h => h) (by rfl) (fun w' hw' => ?_) gS ?_
          rotate_left
          focus (have hh := HS.out _ hw'; go_split_ands; go_simp; (try with_reducible rfl); done)
          (try simp only [Act.put, List.getElem_toArray, List.getElem_cons_succ, List.getElem_cons_zero, List.setIfInBounds_toArray, List.set_cons_zero, List.set_cons_succ])
          refine wpAnyG_take 5 (v := ?_) rfl (by kernel_rfl) (by kernel_rfl) (by kernel_rfl) (by kernel_rfl) (by rfl) (by kernel_rfl) (fun _ _ _ h => h) (by rfl) (fun w' hw' => ?_) gS ?_
          rotate_left
          focus (go_simp; (try with_reducible rfl); done)
          (try simp only [Act.put, List.getElem_toArray, List.getElem_cons_succ, List.getElem_cons_zero, List.setIfInBounds_toArray, List.set_cons_zero, List.set_cons_succ])
          refine wpAnyG_take 6 (v := ?_) rfl (by kernel_rfl) (by kernel_rfl) (by kernel_rfl) (by kernel_rfl) (by rfl) (by kernel_rfl) (fun _ _ _ h => h) (by rfl) (fun w' hw' => ?_) gS ?_
          rotate_left
          focus (go_simp; (try with_reducible rfl); done)
          (try simp only [Act.put, List.getElem_toArray, List.getElem_cons_succ, List.getElem_cons_zero, List.setIfInBounds_toArray, List.set_cons_zero, List.set_cons_succ])
          refine wpAnyG_take 7 (v := ?_) rfl (by kernel_rfl) (by kernel_rfl) (by kernel_rfl) (by kernel_rfl) (by rfl) (by kernel_rfl) (fun _ _ _ h => h) (by rfl) (fun w' hw' => ?_) gS ?_
          rotate_left
          focus (go_simp; (try with_reducible rfl); done)
          (try simp only [Act.put, List.getElem_toArray, List.getElem_cons_succ, List.getElem_cons_zero, List.setIfInBounds_toArray, List.set_cons_zero, List.set_cons_succ])
          refine wpAnyG_take 8 (v := ?_) rfl (by kernel_rfl) (by kernel_rfl) (by kernel_rfl) (by kernel_rfl) (by rfl) (by kernel_rfl) (fun _ _ _ h => h) (by rfl) (fun w' hw' => ?_) gS ?_
          rotate_left
          focus (go_simp; (try with_reducible rfl); done)
          (try simp only [Act.put, List.getElem_toArray, List.getElem_cons_succ, List.getElem_cons_zero, List.setIfInBounds_toArray, List.set_cons_zero, List.set_cons_succ])
          refine wpAnyG_take 9 (v := ?_) rfl (by kernel_rfl) (by kernel_rfl) (by kernel_rfl) (by kernel_rfl) (by rfl) (by kernel_rfl) (fun _ _ _ h => h) (by rfl) (fun w' hw' => ?_) gS ?_
          rotate_left
          focus (go_simp; (try with_reducible rfl); done)
          (try simp only [Act.put, List.getElem_toArray, List.getElem_cons_succ, List.getElem_cons_zero, List.setIfInBounds_toArray, List.set_cons_zero, List.set_cons_succ])
          refine wpAnyG_take 10 (v := ?_) rfl (by kernel_rfl) (by kernel_rfl) (by kernel_rfl) (by kernel_rfl) (by rfl) (by kernel_rfl) (fun _ _ _ h => h) (by rfl) (fun w' hw' => ?_) gS ?_
          rotate_left
          focus (have hh := HS.out _ hw'; go_split_ands; go_simp; (try with_reducible rfl); done)
          (try simp only [Act.put, List.getElem_toArray, List.getElem_cons_succ, List.getElem_cons_zero, List.setIfInBounds_toArray, List.set_cons_zero, List.set_cons_succ])
          refine wpAnyG_one 11 (by kernel_rfl) rfl (by rfl) (fun K hK => ?_)
          (try simp only [List.getElem_toArray, List.getElem_cons_succ, List.getElem_cons_zero])
          go_simp
          go_at_call 9
          refine (HCMP.out _ gS).mono ?_
          rintro e s4 ⟨rfl, z4⟩
          have gS : Ext w3 s4 := Ext.trans gS z4
          (try go_wp2_with fail)
          refine hK.out _ _ (fun _ => gS) ?_
          clear hK K
          (try simp only [Act.put, List.getElem_toArray, List.getElem_cons_succ, List.getElem_cons_zero, List.setIfInBounds_toArray, List.set_cons_zero, List.set_cons_succ])
          refine wpAnyG_take 12 (v := ?_) rfl (by kernel_rfl) (by kernel_rfl) (by kernel_rfl) (by kernel_rfl) (by rfl) (by kernel_rfl) (fun _ _ _ h => h) (by rfl) (fun w' hw' => ?_) gS ?_
          rotate_left
          focus (go_simp; (try with_reducible rfl); done)
          (try simp only [Act.put, List.getElem_toArray, List.getElem_cons_succ, List.getElem_cons_zero, List.setIfInBounds_toArray, List.set_cons_zero, List.set_cons_succ])
          refine wpAnyG_one 13 (by kernel_rfl) rfl (by rfl) (fun K hK => ?_)
          (try simp only [List.getElem_toArray, List.getElem_cons_succ, List.getElem_cons_zero])
          go_simp
          refine hK.out _ _ (fun h => absurd h (by decide)) ?_
          clear hK K
          (try simp only [Act.put, List.getElem_toArray, List.getElem_cons_succ, List.getElem_cons_zero, List.setIfInBounds_toArray, List.set_cons_zero, List.set_cons_succ])
          refine wpAnyG_done (by kernel_rfl) ?_ _
          obtain ⟨e0, e1, e2, e3, e4, e5⟩ := (HB3.out _ gS).zero
          obtain ⟨_, i3, i4, i5⟩ := HS.out _ gS
          have j3 := HFZ.out _ gS (n * 6 + 3)
          have j4 := HFZ.out _ gS (n * 6 + 4)
          have j5 := HFZ.out _ gS (n * 6 + 5)
          go_wp2
          have hO8 : OwnS w.heap.size (((s4.setCell ⟨g, n * 6 + 3, none⟩ (.bool b2)).setCell ⟨g, n * 6 + 3 + 1, none⟩ (.slice A2 k2 c2)).setCell ⟨g, n * 6 + 3 + 2, none⟩ (.slice A2' k2' c2')) (.slice (some ⟨g, 0, none⟩) (n + 1) c) (ts.set (n * 2 + 1) ⟨b2, .slice A2 k2 c2, .slice A2' k2' c2'⟩) (spansTo wt tol m (j + 1)) := by
            rw [HT.out]
            have h0 := HO0.out
            rw [HN.out] at h0
            have hO := OwnS.put h0 (HX3.out.trans gS) (HF2.out _ gS) HN2.out.1 HN2.out.2
            rw [← HN.out, show (n * 2 + 1) * 3 = n * 6 + 3 from by omega] at hO
            exact hO
          have hx8 : Ext w (((s4.setCell ⟨g, n * 6 + 3, none⟩ (.bool b2)).setCell ⟨g, n * 6 + 3 + 1, none⟩ (.slice A2 k2 c2)).setCell ⟨g, n * 6 + 3 + 2, none⟩ (.slice A2' k2' c2')) := (((hx.trans (HX3.out.trans gS)).setCell (by exact hgb) _).setCell (by exact hgb) _).setCell (by exact hgb) _
          go_roundw
          case rel => exact ⟨j + 1, _, by omega, by rw [HKK.out]; go_num, hO8, hx8⟩
          case measure => simp [intOf]; omega
        · have HT := Lib.hid (show spansTo wt tol m (j + 1) = (ini ++ [p]) ++ [(loQ wt tol kk, hiQ wt tol kk)] from by rw [hT, if_neg hle])
          have hz0' : ¬ z ≤ 0 := fun h => hle (hzle.1 h)
          have HOX := Lib.hid HOW.out
          have HSL := Lib.hid (show (ini ++ [p]).length ≤ 24 from by have := HSN.out; have := HN.out; simp; omega)
          clear hT hzle hle
          go_upto_region 12 with (fail)
          refine wp_region_G (fun w' => Ext w3 w') [13] (by kernel_rfl) ?_
          have gS : Ext w3 w3.drew := (Below.refl _ _).drew
          refine wpAnyG_take 0 (v := ?_) rfl (by kernel_rfl) (by kernel_rfl) (by kernel_rfl) (by kernel_rfl) (by rfl) (by kernel_rfl) (fun _ _ _ h => h) (by rfl) (fun w' hw' => ?_) gS ?_
          rotate_left
          focus (go_simp; (try with_reducible rfl); done)
          (try simp only [Act.put, List.getElem_toArray, List.getElem_cons_succ, List.getElem_cons_zero, List.setIfInBounds_toArray, List.set_cons_zero, List.set_cons_succ])
          refine wpAnyG_take 1 (v := ?_) rfl (by kernel_rfl) (by kernel_rfl) (by kernel_rfl) (by kernel_rfl) (by rfl) (by kernel_rfl) (fun _ _ _ h => h) (by rfl) (fun w' hw' => ?_) gS ?_
          rotate_left
          focus (go_simp; (try with_reducible rfl); done)
          (try simp only [Act.put, List.getElem_toArray, List.getElem_cons_succ, List.getElem_cons_zero, List.setIfInBounds_toArray, List.set_cons_zero, List.set_cons_succ])
          refine wpAnyG_take 2 (v := ?_) rfl (by kernel_rfl) (by kernel_rfl) (by kernel_rfl) (by kernel_rfl) (by rfl) (by kernel_rfl) (fun _ _ _ h => h) (by rfl) (fun w' hw' => ?_) gS ?_
          rotate_left
          focus (go_simp; (try with_reducible rfl); done)
          (try simp only [Act.put, List.getElem_toArray, List.getElem_cons_succ, List.getElem_cons_zero, List.setIfInBounds_toArray, List.set_cons_zero, List.set_cons_succ])
          refine wpAnyG_take 3 (v := ?_) rfl (by kernel_rfl) (by kernel_rfl) (by kernel_rfl) (by kernel_rfl) (by rfl) (by kernel_rfl) (fun _ _ _ h => h) (by rfl) (fun w' hw' => ?_) gS ?_
          rotate_left
          focus (go_simp; (try with_reducible rfl); done)
          (try simp only [Act.put, List.getElem_toArray, List.getElem_cons_succ, List.getElem_cons_zero, List.setIfInBounds_toArray, List.set_cons_zero, List.set_cons_succ])
          refine wpAnyG_take 4 (v := ?_) rfl (by kernel_rfl) (by kernel_rfl) (by kernel_rfl) (by kernel_rfl) (by rfl) (by kernel_rfl) (fun _ _ _ h => h) (by rfl) (fun w' hw' => ?_) gS ?_
          rotate_left
          focus (have hh := HS.out _ hw'; go_split_ands; go_simp; (try with_reducible rfl); done)
          (try simp only [Act.put, List.getElem_toArray, List.getElem_cons_succ, List.getElem_cons_zero, List.setIfInBounds_toArray, List.set_cons_zero, List.set_cons_succ])
          refine wpAnyG_take 5 (v := ?_) rfl (by kernel_rfl) (by kernel_rfl) (by kernel_rfl) (by kernel_rfl) (by rfl) (by kernel_rfl) (fun _ _ _ h => h) (by rfl) (fun w' hw' => ?_) gS ?_
          rotate_left
          focus (go_simp; (try with_reducible rfl); done)
          (try simp only [Act.put, List.getElem_toArray, List.getElem_cons_succ, List.getElem_cons_zero, List.setIfInBounds_toArray, List.set_cons_zero, List.set_cons_succ])
          refine wpAnyG_take 6 (v := ?_) rfl (by kernel_rfl) (by kernel_rfl) (by kernel_rfl) (by kernel_rfl) (by rfl) (by kernel_rfl) (fun _ _ _ h => h) (by rfl) (fun w' hw' => ?_) gS ?_
          rotate_left
          focus (go_simp; (try with_reducible rfl); done)
          (try simp only [Act.put, List.getElem_toArray, List.getElem_cons_succ, List.getElem_cons_zero, List.setIfInBounds_toArray, List.set_cons_zero, List.set_cons_succ])
          refine wpAnyG_take 7 (v := ?_) rfl (by kernel_rfl) (by kernel_rfl) (by kernel_rfl) (by kernel_rfl) (by rfl) (by kernel_rfl) (fun _ _ _ h => h) (by rfl) (fun w' hw' => ?_) gS ?_
          rotate_left
          focus (go_simp; (try with_reducible rfl); done)
          (try simp only [Act.put, List.getElem_toArray, List.getElem_cons_succ, List.getElem_cons_zero, List.setIfInBounds_toArray, List.set_cons_zero, List.set_cons_succ])
          refine wpAnyG_take 8 (v := ?_) rfl (by kernel_rfl) (by kernel_rfl) (by kernel_rfl) (by kernel_rfl) (by rfl) (by kernel_rfl) (fun _ _ _ h => h) (by rfl) (fun w' hw' => ?_) gS ?_
          rotate_left
          focus (go_simp; (try with_reducible rfl); done)
          (try simp only [Act.put, List.getElem_toArray, List.getElem_cons_succ, List.getElem_cons_zero, List.setIfInBounds_toArray, List.set_cons_zero, List.set_cons_succ])
          refine wpAnyG_take 9 (v := ?_) rfl (by kernel_rfl) (by kernel_rfl) (by kernel_rfl) (by kernel_rfl) (by rfl) (by kernel_rfl) (fun _ _ _ h => h) (by rfl) (fun w' hw' => ?_) gS ?_
          rotate_left
          focus (go_simp; (try with_reducible rfl); done)
          (try simp only [Act.put, List.getElem_toArray, List.getElem_cons_succ, List.getElem_cons_zero, List.setIfInBounds_toArray, List.set_cons_zero, List.set_cons_succ])
          refine wpAnyG_take 10 (v := ?_) rfl (by kernel_rfl) (by kernel_rfl) (by kernel_rfl) (by kernel_rfl) (by rfl) (by kernel_rfl) (fun _ _ _ h => h) (by rfl) (fun w' hw' => ?_) gS ?_
          rotate_left
          focus (have hh := HS.out _ hw'; go_split_ands; go_simp; (try with_reducible rfl); done)
          (try simp only [Act.put, List.getElem_toArray, List.getElem_cons_succ, List.getElem_cons_zero, List.setIfInBounds_toArray, List.set_cons_zero, List.set_cons_succ])
          refine wpAnyG_one 11 (by kernel_rfl) rfl (by rfl) (fun K hK => ?_)
          (try simp only [List.getElem_toArray, List.getElem_cons_succ, List.getElem_cons_zero])
          go_simp
          go_at_call 9
          refine (HCMP.out _ gS).mono ?_
          rintro e s4 ⟨rfl, z4⟩
          have gS : Ext w3 s4 := Ext.trans gS z4
          (try go_wp2_with fail)
          refine hK.out _ _ (fun _ => gS) ?_
          clear hK K
          (try simp only [Act.put, List.getElem_toArray, List.getElem_cons_succ, List.getElem_cons_zero, List.setIfInBounds_toArray, List.set_cons_zero, List.set_cons_succ])
          refine wpAnyG_take 12 (v := ?_) rfl (by kernel_rfl) (by kernel_rfl) (by kernel_rfl) (by kernel_rfl) (by rfl) (by kernel_rfl) (fun _ _ _ h => h) (by rfl) (fun w' hw' => ?_) gS ?_
          rotate_left
          focus (go_simp; (try with_reducible rfl); done)
          (try simp only [Act.put, List.getElem_toArray, List.getElem_cons_succ, List.getElem_cons_zero, List.setIfInBounds_toArray, List.set_cons_zero, List.set_cons_succ])
          refine wpAnyG_one 13 (by kernel_rfl) rfl (by rfl) (fun K hK => ?_)
          (try simp only [List.getElem_toArray, List.getElem_cons_succ, List.getElem_cons_zero])
          go_simp
          refine hK.out _ _ (fun h => absurd h (by decide)) ?_
          clear hK K
          (try simp only [Act.put, List.getElem_toArray, List.getElem_cons_succ, List.getElem_cons_zero, List.setIfInBounds_toArray, List.set_cons_zero, List.set_cons_succ])
          refine wpAnyG_done (by kernel_rfl) ?_ _
          obtain ⟨e0, e1, e2, e3, e4, e5⟩ := (HB3.out _ gS).zero
          go_wp2_with (at_builtin; refine wpList_append_mine _ (by rfl) (.tmp 62) (.tmp 64) 32 (by rfl) w.heap.size 40 i0 (.agg #[.bool false, .slice none 0 0, .slice none 0 0, .bool false, .slice none 0 0, .slice none 0 0]) 6 112 Tryz.underlying32 hi hz0 hz1 hz2 rfl (by omega) _ _ _ (by rfl) (HOX.out.ext (ext_alloc gS _)).1.1 ⟨s4.heap.size, 0, none⟩ 1 1 [.bool b1, .slice A1 k1 c1, .slice A1' k1' c1', .bool b2, .slice A2 k2 c2, .slice A2' k2' c2'] (by rfl) rfl (cell_six s4 _ _ _ _ _ _ _) (by simp [Value.oneCell']) (by have := HSL.out; unfold maxLen; omega) (by have := HSL.out; omega) (by have := HBW.out; have := (gS : Ext w3 s4).size; simp; omega) ?_; intro v8 w8 ho8 hg8 hw8)
          have hO8 : OwnS w.heap.size w8 v8 (ts ++ [⟨b1, .slice A1 k1 c1, .slice A1' k1' c1'⟩, ⟨b2, .slice A2 k2 c2, .slice A2' k2' c2'⟩]) (spansTo wt tol m (j + 1)) := by
            rw [HT.out]
            exact OwnS.push (p := (loQ wt tol kk, hiQ wt tol kk)) (t := ⟨b1, .slice A1 k1 c1, .slice A1' k1' c1'⟩) (u := ⟨b2, .slice A2 k2 c2, .slice A2' k2' c2'⟩) (HOX.out.ext (ext_alloc gS _)) (HF1.out _ (ext_alloc gS _)) (HF2.out _ (ext_alloc gS _)) HA1.out HA1'.out HA2.out HA2'.out ho8 hg8 hw8
          have hx8 : Ext w w8 := OwnS.ext_of HOX.out (hx.trans HX3.out) (ext_alloc gS _) hg8
          clear ho8 hg8 hw8
          go_roundw
          case rel => exact ⟨j + 1, _, by omega, by rw [HKK.out]; go_num, hO8, hx8⟩
          case measure => simp [intOf]; omega
    · obtain rfl : m = j := by omega
      have hk0 : ¬ (1 : Int) ≤ (m : Int) - (m : Int) := by omega
      obtain ⟨A, c, rfl, _, _⟩ := hown.spans.form
      have h9 := hown.spans
      clear hown
      go_wp2
      go_ret2
      exact ⟨A, c, rfl, h9, hx⟩

end Go.Proofs.YtbplkienkhinmaaGreatDoor
