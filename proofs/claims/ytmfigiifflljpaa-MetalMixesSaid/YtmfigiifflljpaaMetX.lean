/- metal: the reference's one, scaled, less; rows that are replaced. -/
import Derived.Test.YtmfigiifflljpaaMetK
import Derived.Test.YtmfigiifflljpaaMetU
import Derived.Test.YtmfigiifflljpaaMetR
import Derived.Test.YtmfigiifflljpaaRFracD
import Derived.Test.YtmfigiifflljpaaRCmp
set_option linter.unusedVariables false
set_option linter.unusedSimpArgs false
set_option maxRecDepth 100000
namespace Go.Proofs.Ytmfigiifflljpaa
open Go.RowKit Num

set_option maxHeartbeats 4000000 in
theorem rone_n {w : World} : Calls Try.prog 57 #[] w (GivesF w 1) := by
  go_enter Try.func57, Try.ntmps57
  go_upto_region 1 with (fail)
  have hF0 := FBox.new w (.bool false) (.slice none 0 0) (.slice none 0 0) 34
  have x0 : Ext w (w.alloc (.cells #[.bool false, .slice none 0 0, .slice none 0 0] 34)) := ext_alloc (Below.refl _ _) _
  have hs0 : w.heap.size + 1 ≤ (w.alloc (.cells #[.bool false, .slice none 0 0, .slice none 0 0] 34)).heap.size := by simp
  generalize w.alloc (.cells #[.bool false, .slice none 0 0, .slice none 0 0] 34) = W0 at *
  have HF := Lib.hid (fun (w' : World) (h : Ext W0 w') => hF0.below h)
  have HE := Lib.hid x0
  have f0 : Ext W0 W0 := Below.refl _ _
  obtain ⟨r0, r1, r2, g0, g1, g2⟩ := hF0
  clear x0
  go_wp2_with (go_at_call 41; (with_reducible refine (rfof_n (n := 1) (d := 1) (by omega) (by omega)).mono ?_); rintro _ s8 ⟨b8, A8, k8, c8, B8, l8, d8, rfl, h8, z8, n8, m8⟩; obtain ⟨r0, r1, r2, g0, g1, g2⟩ := HF.out _ z8)
  rw [one_firstM] at h8
  obtain ⟨q0, q1, q2⟩ := set3 r0 r1 r2 (.bool b8) (.slice A8 k8 c8) (.slice B8 l8 d8)
  refine bodyPost_ret (v := .agg #[.bool b8, .slice A8 k8 c8, .slice B8 l8 d8]) (by simp [results, Try.results57, go_sem, q0, q1, q2]) rfl ?_
  exact GivesF.box (B := w.heap.size) (HE.out.trans z8) h8 (n8.mono (by omega)) (m8.mono (by omega)) (Nat.le_refl _)

/-- A row of the call's own. -/
def GivesRF (w : World) (n : Nat) (f : Nat → Rat) (e : Ending) (w' : World) : Prop :=
  ∃ A c, e = .returned (.slice A n c) ∧ RowF w.heap.size w' (.slice A n c) n n f ∧ Ext w w'
theorem RowF.of_own {e0 : TypeId} {base : Nat} {w : World} {v : Value} {n : Nat} {ts : List Fc} {f : Nat → Rat} (he : e0 = 34) (h : OwnF e0 base base w v ts (uptoQ f n)) : RowF base w v n n f := by
  subst he
  have hl := uptoQ_length f n
  refine ⟨ts, by have := h.1.1; rwa [hl] at this, by rw [h.1.2, hl], fun j t ht => ?_⟩
  have hj : j < n := by have := (List.getElem?_eq_some_iff.1 ht).1; have := h.1.2; omega
  obtain ⟨m1, m2, m3, m4, m5⟩ := h.2 j t (f j) ht (uptoQ_at hj)
  exact ⟨fun _ => m1, ⟨m2, m3⟩, m4, m5⟩
theorem RowF.lower {base base' : Nat} {w : World} {v : Value} {c k : Nat} {f : Nat → Rat} (h : RowF base w v c k f) (hb : base' ≤ base) : RowF base' w v c k f := by
  obtain ⟨ts, h1, h2, h3⟩ := h
  exact ⟨ts, ownsRow_base h1 hb, h2, fun j t ht => ⟨(h3 j t ht).1, (h3 j t ht).2.1, (h3 j t ht).2.2.1.mono hb, (h3 j t ht).2.2.2.mono hb⟩⟩
theorem RowF.form {base : Nat} {w : World} {v : Value} {c k : Nat} {f : Nat → Rat} (h : RowF base w v c k f) : ∃ A c', v = .slice A c c' := by
  obtain ⟨ts, h1, _⟩ := h
  exact own_form h1
set_option maxHeartbeats 4000000 in
theorem rscaled_n {K : Bool} {x s t : Value} {b0 : Bool} {n L M : Nat} {f : Nat → Rat} {q : Rat} {w : World} (hx : EFs K w x n f) (hq : AnyF w b0 s t q M) (hf : ∀ k, k < n → FB (f k) L) (hL3 : 3 ≤ L) (hL : L + M ≤ 549755813000) (hn : n ≤ 20) (hs : ∃ A k c, s = .slice A k c) (ht : ∃ A k c, t = .slice A k c) :
    Calls Try.prog 68 #[x, .agg #[.bool b0, s, t]] w (GivesRF w n (fun j => f j * q)) := by
  obtain ⟨S1, k1, c1, rfl⟩ := hs
  obtain ⟨T1, k2, c2, rfl⟩ := ht
  have HFX := Lib.hid hf
  have HV := Lib.hid (fun (w' : World) (h : Ext w w') => hx.below h)
  have HQ := Lib.hid (fun (w' : World) (h : Ext w w') => hq.below h)
  obtain ⟨A, cap, rfl, hc1, hc2⟩ := hx.form
  obtain ⟨i0, hi, hz0, hz1, hz2⟩ := info_parts info_frac
  obtain ⟨g, hg⟩ : ∃ g : Nat → Rat, g = fun j => f j * q := ⟨_, rfl⟩
  have HG := Lib.hid (fun i => congrFun hg i)
  rw [← hg]
  clear hx hq hf hg
  go_enter Try.func68, Try.ntmps68
  go_upto_region 1 with (fail)
  have hB := FBox.new w (.bool b0) (.slice S1 k1 c1) (.slice T1 k2 c2) 34
  have xB : Ext w (w.alloc (.cells #[.bool b0, .slice S1 k1 c1, .slice T1 k2 c2] 34)) := ext_alloc (Below.refl _ _) _
  generalize w.alloc (.cells #[.bool b0, .slice S1 k1 c1, .slice T1 k2 c2] 34) = W0 at *
  have HBX := Lib.hid (fun (w' : World) (h : Ext W0 w') => hB.below h)
  have HXB := Lib.hid xB
  have hsB := xB.size
  clear hB xB
  go_wp2
  go_loopw [5, 6] (fun rv iv wr => ∃ (k : Nat) (ts : List Fc), k ≤ n ∧ iv = .int .i64 k ∧ OwnF 34 W0.heap.size W0.heap.size wr rv ts (uptoQ g k) ∧ Ext W0 wr) (fun _ iv _ => n - (intOf iv).toNat)
  case atStart => exact ⟨0, [], Nat.zero_le _, rfl, OwnF.nil_ _ _ _ _, Below.refl _ _⟩
  case round =>
    obtain ⟨k, ts, hk, rfl, hown, hy⟩ := hrel
    by_cases hkn : k < n
    · obtain ⟨b, o, neg, A2, k3, c3, A3, k4, c4, rfl, hb, e0, e1, e2, fv⟩ := (HV.out _ (HXB.out.trans hy)).at_ hkn
      have HU := Lib.hid (uptoQ_length g k)
      have HOWN := Lib.hid hown
      have hi1 : (0 : Int) ≤ (k : Int) := by omega
      have hi2 : (k : Int) < (n : Int) := by omega
      have HE := Lib.hid (fun (w' : World) (h : Ext wr w') => (fv.below h).any (HFX.out k hkn) hL3 (by omega))
      have HS := Lib.hid (fun (w' : World) (h : Ext wr w') => (⟨⟨(h.cell (p := ⟨b, o + k * 3, none⟩) hb).trans e0, (h.cell (p := ⟨b, o + k * 3 + 1, none⟩) hb).trans e1, (h.cell (p := ⟨b, o + k * 3 + 2, none⟩) hb).trans e2⟩, (HBX.out w' (hy.trans h)).1, (HBX.out w' (hy.trans h)).2.1, (HBX.out w' (hy.trans h)).2.2.1⟩ : (w'.cell? ⟨b, o + k * 3, none⟩ = some (.bool neg) ∧ w'.cell? ⟨b, o + k * 3 + 1, none⟩ = some (.slice A2 k3 c3) ∧ w'.cell? ⟨b, o + k * 3 + 2, none⟩ = some (.slice A3 k4 c4)) ∧ w'.cell? ⟨w.heap.size, 0, none⟩ = some (.bool b0) ∧ w'.cell? ⟨w.heap.size, 1, none⟩ = some (.slice S1 k1 c1) ∧ w'.cell? ⟨w.heap.size, 2, none⟩ = some (.slice T1 k2 c2)))
      have hyw : Ext w wr := HXB.out.trans hy
      clear hown fv e0 e1 e2
      go_upto_region 5 with (fail)
      refine wp_region_G (fun w' => Ext wr w') [8, 9] (by kernel_rfl) ?_
      have gS : Ext wr wr.drew := (Below.refl _ _).drew
      refine wpAnyG_take 0 (v := ?_) rfl (by kernel_rfl) (by kernel_rfl) (by kernel_rfl) (by kernel_rfl) (by rfl) (by kernel_rfl) (fun _ _ _ h => h) (by rfl) (fun w' hw' => ?_) gS ?_
      rotate_left
      focus (go_simp; (try with_reducible rfl); done)
      (try simp only [Act.put, List.getElem_toArray, List.getElem_cons_succ, List.getElem_cons_zero, List.setIfInBounds_toArray, List.set_cons_zero, List.set_cons_succ])
      refine wpAnyG_take 1 (v := ?_) rfl (by kernel_rfl) (by kernel_rfl) (by kernel_rfl) (by kernel_rfl) (by rfl) (by kernel_rfl) (fun _ _ _ h => h) (by rfl) (fun w' hw' => ?_) gS ?_
      rotate_left
      focus (go_simp; (try with_reducible rfl); done)
      (try simp only [Act.put, List.getElem_toArray, List.getElem_cons_succ, List.getElem_cons_zero, List.setIfInBounds_toArray, List.set_cons_zero, List.set_cons_succ])
      refine wpAnyG_take 2 (v := ?_) rfl (by kernel_rfl) (by kernel_rfl) (by kernel_rfl) (by kernel_rfl) (by rfl) (by kernel_rfl) (fun _ _ _ h => h) (by rfl) (fun w' hw' => ?_) gS ?_
      rotate_left
      focus (go_simp; (try with_reducible rfl); done)
      (try simp only [Act.put, List.getElem_toArray, List.getElem_cons_succ, List.getElem_cons_zero, List.setIfInBounds_toArray, List.set_cons_zero, List.set_cons_succ])
      refine wpAnyG_take 3 (v := ?_) rfl (by kernel_rfl) (by kernel_rfl) (by kernel_rfl) (by kernel_rfl) (by rfl) (by kernel_rfl) (fun _ _ _ h => h) (by rfl) (fun w' hw' => ?_) gS ?_
      rotate_left
      focus (go_simp; (try with_reducible rfl); done)
      (try simp only [Act.put, List.getElem_toArray, List.getElem_cons_succ, List.getElem_cons_zero, List.setIfInBounds_toArray, List.set_cons_zero, List.set_cons_succ])
      refine wpAnyG_take 4 (v := ?_) rfl (by kernel_rfl) (by kernel_rfl) (by kernel_rfl) (by kernel_rfl) (by rfl) (by kernel_rfl) (fun _ _ _ h => h) (by rfl) (fun w' hw' => ?_) gS ?_
      rotate_left
      focus (have hh := HS.out _ hw'; go_split_ands; go_simp; (try with_reducible rfl); done)
      (try simp only [Act.put, List.getElem_toArray, List.getElem_cons_succ, List.getElem_cons_zero, List.setIfInBounds_toArray, List.set_cons_zero, List.set_cons_succ])
      refine wpAnyG_take 5 (v := ?_) rfl (by kernel_rfl) (by kernel_rfl) (by kernel_rfl) (by kernel_rfl) (by rfl) (by kernel_rfl) (fun _ _ _ h => h) (by rfl) (fun w' hw' => ?_) gS ?_
      rotate_left
      focus (have hh := HS.out _ hw'; go_split_ands; go_simp; (try with_reducible rfl); done)
      (try simp only [Act.put, List.getElem_toArray, List.getElem_cons_succ, List.getElem_cons_zero, List.setIfInBounds_toArray, List.set_cons_zero, List.set_cons_succ])
      refine wpAnyG_one 6 (by kernel_rfl) rfl (by rfl) (fun K hK => ?_)
      go_simp
      go_at_call 63
      refine (rmul_f (HE.out _ gS) (HQ.out _ (hyw.trans gS)) (by omega)).mono ?_
      rintro _ w7 ⟨b7, A7, k7, c7, B7, l7, d7, rfl, h7, x7, n7, m7⟩
      rw [← HG.out k] at h7
      have hgs := gS.size
      have gS : Ext wr w7 := Ext.trans gS x7
      have e7 := gS
      (try go_wp2_with fail)
      refine hK.out _ _ (fun _ => gS) ?_
      clear hK K
      (try simp only [Act.put, List.getElem_toArray, List.getElem_cons_succ, List.getElem_cons_zero, List.setIfInBounds_toArray, List.set_cons_zero, List.set_cons_succ])
      refine wpAnyG_one 7 (by kernel_rfl) rfl (by rfl) (fun K hK => ?_)
      go_simp
      have gS : Ext wr (w7.alloc (.cells #[.bool b7, .slice A7 k7 c7, .slice B7 l7 d7] 34)) := ext_alloc gS _
      (try go_wp2_with fail)
      refine hK.out _ _ (fun _ => gS) ?_
      clear hK K
      (try simp only [Act.put, List.getElem_toArray, List.getElem_cons_succ, List.getElem_cons_zero, List.setIfInBounds_toArray, List.set_cons_zero, List.set_cons_succ])
      refine wpAnyG_one 8 (by kernel_rfl) rfl (by rfl) (fun K hK => ?_)
      refine wp_append_mine _ (.tmp 13) (.tmp 20) 39 (by rfl) W0.heap.size 34 i0 (.agg #[.bool false, .slice none 0 0, .slice none 0 0]) 3 56 Try.underlying39 hi hz0 hz1 hz2 rfl (by omega) _ _ _ (by rfl) (HOWN.out.ext (ext_alloc e7 _)).1.1 ⟨w7.heap.size, 0, none⟩ 1 1 [.bool b7, .slice A7 k7 c7, .slice B7 l7 d7] (by rfl) rfl (cell_three w7 _ _ _ _) (by simp [Value.oneCell']) (by rw [HU.out]; unfold maxLen; omega) (by rw [HU.out]; omega) (by have := hy.size; have := e7.size; simp; omega) ?_
      intro v11 w11 ho11 hg11 hw11
      have hO11 : OwnF 34 W0.heap.size W0.heap.size w11 v11 (ts ++ [⟨b7, .slice A7 k7 c7, .slice B7 l7 d7⟩]) (uptoQ g (k + 1)) := by
        rw [uptoQ_succ]; exact OwnF.grow (t := ⟨b7, .slice A7 k7 c7, .slice B7 l7 d7⟩) HOWN.out (ext_alloc e7 _) (h7.below (ext_alloc (Below.refl _ _) _)) (n7.mono hgs) (m7.mono hgs) hy.size ho11 hg11 hw11
      have hx11 : Ext W0 w11 := OwnF.grow_ext HOWN.out hy (ext_alloc e7 _) hg11
      clear ho11 hg11 hw11 HOWN h7 x7 n7 m7
      refine hK.out _ _ (fun h => absurd h (by decide)) ?_
      clear hK K
      (try simp only [Act.put, List.getElem_toArray, List.getElem_cons_succ, List.getElem_cons_zero, List.setIfInBounds_toArray, List.set_cons_zero, List.set_cons_succ])
      refine wpAnyG_one 9 (by kernel_rfl) rfl (by rfl) (fun K hK => ?_)
      (try simp only [List.getElem_toArray, List.getElem_cons_succ, List.getElem_cons_zero])
      go_simp
      refine hK.out _ _ (fun h => absurd h (by decide)) ?_
      clear hK K
      (try simp only [Act.put, List.getElem_toArray, List.getElem_cons_succ, List.getElem_cons_zero, List.setIfInBounds_toArray, List.set_cons_zero, List.set_cons_succ])
      refine wpAnyG_done (by kernel_rfl) ?_ _
      go_wp2
      go_roundw
      case rel => exact ⟨k + 1, _, by omega, by go_num, hO11, hx11⟩
      case measure => simp [intOf]; omega
    · obtain rfl : n = k := by omega
      have hkk : ¬ ((n : Int) < (n : Int)) := by omega
      have hF := (RowF.of_own rfl hown).lower HXB.out.size
      obtain ⟨A9, c9, rfl⟩ := hF.form
      clear hown
      go_wp2
      go_ret
      exact ⟨_, _, rfl, hF, HXB.out.trans hy⟩
set_option maxHeartbeats 4000000 in
theorem rless_n {K K' : Bool} {x y : Value} {n L M : Nat} {f g : Nat → Rat} {w : World} (hx : EFs K w x n f) (hy : EFs K' w y n g) (hf : ∀ k, k < n → FB (f k) L) (hg : ∀ k, k < n → FB (g k) M) (hL3 : 3 ≤ L) (hM3 : 3 ≤ M) (hL : L + M ≤ 549755813000) (hn : n ≤ 20) :
    Calls Try.prog 70 #[x, y] w (GivesRF w n (fun j => f j - g j)) := by
  have HFX := Lib.hid hf
  have HFY := Lib.hid hg
  have HV := Lib.hid (fun (w' : World) (h : Ext w w') => hx.below h)
  have HU := Lib.hid (fun (w' : World) (h : Ext w w') => hy.below h)
  obtain ⟨A, cap, rfl, hc1, hc2⟩ := hx.form
  obtain ⟨A', cap', rfl, hc3, hc4⟩ := hy.form
  obtain ⟨i0, hi, hz0, hz1, hz2⟩ := info_parts info_frac
  obtain ⟨d, hd⟩ : ∃ d : Nat → Rat, d = fun j => f j - g j := ⟨_, rfl⟩
  have HG := Lib.hid (fun i => congrFun hd i)
  rw [← hd]
  clear hx hy hf hg hd
  go_enter Try.func70, Try.ntmps70
  go_wp2
  go_loopw [5, 6] (fun rv iv wr => ∃ (k : Nat) (ts : List Fc), k ≤ n ∧ iv = .int .i64 k ∧ OwnF 34 w.heap.size w.heap.size wr rv ts (uptoQ d k) ∧ Ext w wr) (fun _ iv _ => n - (intOf iv).toNat)
  case atStart => exact ⟨0, [], Nat.zero_le _, rfl, OwnF.nil_ _ _ _ _, Below.refl _ _⟩
  case round =>
    obtain ⟨k, ts, hk, rfl, hown, hy⟩ := hrel
    by_cases hkn : k < n
    · obtain ⟨b, o, neg, A2, k3, c3, A3, k4, c4, rfl, hb, e0, e1, e2, fv⟩ := (HV.out _ hy).at_ hkn
      obtain ⟨b', o', neg', A4, k5, c5, A5, k6, c6, rfl, hb', e3, e4, e5, fu⟩ := (HU.out _ hy).at_ hkn
      have HUL := Lib.hid (uptoQ_length d k)
      have HOWN := Lib.hid hown
      have hi1 : (0 : Int) ≤ (k : Int) := by omega
      have hi2 : (k : Int) < (n : Int) := by omega
      have HE := Lib.hid (fun (w' : World) (h : Ext wr w') => (fv.below h).any (HFX.out k hkn) hL3 (by omega))
      have HE2 := Lib.hid (fun (w' : World) (h : Ext wr w') => (fu.below h).any (HFY.out k hkn) hM3 (by omega))
      have HF1 := Lib.hid (HFX.out k hkn)
      have HF2 := Lib.hid (HFY.out k hkn)
      have HS := Lib.hid (fun (w' : World) (h : Ext wr w') => (⟨⟨(h.cell (p := ⟨b, o + k * 3, none⟩) hb).trans e0, (h.cell (p := ⟨b, o + k * 3 + 1, none⟩) hb).trans e1, (h.cell (p := ⟨b, o + k * 3 + 2, none⟩) hb).trans e2⟩, (h.cell (p := ⟨b', o' + k * 3, none⟩) hb').trans e3, (h.cell (p := ⟨b', o' + k * 3 + 1, none⟩) hb').trans e4, (h.cell (p := ⟨b', o' + k * 3 + 2, none⟩) hb').trans e5⟩ : (w'.cell? ⟨b, o + k * 3, none⟩ = some (.bool neg) ∧ w'.cell? ⟨b, o + k * 3 + 1, none⟩ = some (.slice A2 k3 c3) ∧ w'.cell? ⟨b, o + k * 3 + 2, none⟩ = some (.slice A3 k4 c4)) ∧ w'.cell? ⟨b', o' + k * 3, none⟩ = some (.bool neg') ∧ w'.cell? ⟨b', o' + k * 3 + 1, none⟩ = some (.slice A4 k5 c5) ∧ w'.cell? ⟨b', o' + k * 3 + 2, none⟩ = some (.slice A5 k6 c6)))
      clear hown fv fu e0 e1 e2 e3 e4 e5
      go_upto_region 5 with (fail)
      refine wp_region_G (fun w' => Ext wr w') [11, 12] (by kernel_rfl) ?_
      have gS : Ext wr wr.drew := (Below.refl _ _).drew
      refine wpAnyG_take 0 (v := ?_) rfl (by kernel_rfl) (by kernel_rfl) (by kernel_rfl) (by kernel_rfl) (by rfl) (by kernel_rfl) (fun _ _ _ h => h) (by rfl) (fun w' hw' => ?_) gS ?_
      rotate_left
      focus (go_simp; (try with_reducible rfl); done)
      (try simp only [Act.put, List.getElem_toArray, List.getElem_cons_succ, List.getElem_cons_zero, List.setIfInBounds_toArray, List.set_cons_zero, List.set_cons_succ])
      refine wpAnyG_take 1 (v := ?_) rfl (by kernel_rfl) (by kernel_rfl) (by kernel_rfl) (by kernel_rfl) (by rfl) (by kernel_rfl) (fun _ _ _ h => h) (by rfl) (fun w' hw' => ?_) gS ?_
      rotate_left
      focus (go_simp; (try with_reducible rfl); done)
      (try simp only [Act.put, List.getElem_toArray, List.getElem_cons_succ, List.getElem_cons_zero, List.setIfInBounds_toArray, List.set_cons_zero, List.set_cons_succ])
      refine wpAnyG_take 2 (v := ?_) rfl (by kernel_rfl) (by kernel_rfl) (by kernel_rfl) (by kernel_rfl) (by rfl) (by kernel_rfl) (fun _ _ _ h => h) (by rfl) (fun w' hw' => ?_) gS ?_
      rotate_left
      focus (go_simp; (try with_reducible rfl); done)
      (try simp only [Act.put, List.getElem_toArray, List.getElem_cons_succ, List.getElem_cons_zero, List.setIfInBounds_toArray, List.set_cons_zero, List.set_cons_succ])
      refine wpAnyG_take 3 (v := ?_) rfl (by kernel_rfl) (by kernel_rfl) (by kernel_rfl) (by kernel_rfl) (by rfl) (by kernel_rfl) (fun _ _ _ h => h) (by rfl) (fun w' hw' => ?_) gS ?_
      rotate_left
      focus (go_simp; (try with_reducible rfl); done)
      (try simp only [Act.put, List.getElem_toArray, List.getElem_cons_succ, List.getElem_cons_zero, List.setIfInBounds_toArray, List.set_cons_zero, List.set_cons_succ])
      refine wpAnyG_take 4 (v := ?_) rfl (by kernel_rfl) (by kernel_rfl) (by kernel_rfl) (by kernel_rfl) (by rfl) (by kernel_rfl) (fun _ _ _ h => h) (by rfl) (fun w' hw' => ?_) gS ?_
      rotate_left
      focus (have hh := HS.out _ hw'; go_split_ands; go_simp; (try with_reducible rfl); done)
      (try simp only [Act.put, List.getElem_toArray, List.getElem_cons_succ, List.getElem_cons_zero, List.setIfInBounds_toArray, List.set_cons_zero, List.set_cons_succ])
      refine wpAnyG_take 5 (v := ?_) rfl (by kernel_rfl) (by kernel_rfl) (by kernel_rfl) (by kernel_rfl) (by rfl) (by kernel_rfl) (fun _ _ _ h => h) (by rfl) (fun w' hw' => ?_) gS ?_
      rotate_left
      focus (go_simp; (try with_reducible rfl); done)
      (try simp only [Act.put, List.getElem_toArray, List.getElem_cons_succ, List.getElem_cons_zero, List.setIfInBounds_toArray, List.set_cons_zero, List.set_cons_succ])
      refine wpAnyG_take 6 (v := ?_) rfl (by kernel_rfl) (by kernel_rfl) (by kernel_rfl) (by kernel_rfl) (by rfl) (by kernel_rfl) (fun _ _ _ h => h) (by rfl) (fun w' hw' => ?_) gS ?_
      rotate_left
      focus (go_simp; (try with_reducible rfl); done)
      (try simp only [Act.put, List.getElem_toArray, List.getElem_cons_succ, List.getElem_cons_zero, List.setIfInBounds_toArray, List.set_cons_zero, List.set_cons_succ])
      refine wpAnyG_take 7 (v := ?_) rfl (by kernel_rfl) (by kernel_rfl) (by kernel_rfl) (by kernel_rfl) (by rfl) (by kernel_rfl) (fun _ _ _ h => h) (by rfl) (fun w' hw' => ?_) gS ?_
      rotate_left
      focus (go_simp; (try with_reducible rfl); done)
      (try simp only [Act.put, List.getElem_toArray, List.getElem_cons_succ, List.getElem_cons_zero, List.setIfInBounds_toArray, List.set_cons_zero, List.set_cons_succ])
      refine wpAnyG_take 8 (v := ?_) rfl (by kernel_rfl) (by kernel_rfl) (by kernel_rfl) (by kernel_rfl) (by rfl) (by kernel_rfl) (fun _ _ _ h => h) (by rfl) (fun w' hw' => ?_) gS ?_
      rotate_left
      focus (have hh := HS.out _ hw'; go_split_ands; go_simp; (try with_reducible rfl); done)
      (try simp only [Act.put, List.getElem_toArray, List.getElem_cons_succ, List.getElem_cons_zero, List.setIfInBounds_toArray, List.set_cons_zero, List.set_cons_succ])
      refine wpAnyG_one 9 (by kernel_rfl) rfl (by rfl) (fun K hK => ?_)
      (try simp only [List.getElem_toArray, List.getElem_cons_succ, List.getElem_cons_zero])
      go_simp
      go_at_call 37
      refine (rsub_f (HE.out _ gS) (HE2.out _ gS) HF1.out HF2.out (by omega)).mono ?_
      rintro _ w7 ⟨b7, A7, k7, c7, B7, l7, d7, rfl, h7, x7, n7, m7⟩
      rw [← HG.out k] at h7
      have hgs := gS.size
      have gS : Ext wr w7 := Ext.trans gS x7
      have e7 := gS
      (try go_wp2_with fail)
      refine hK.out _ _ (fun _ => gS) ?_
      clear hK K
      (try simp only [Act.put, List.getElem_toArray, List.getElem_cons_succ, List.getElem_cons_zero, List.setIfInBounds_toArray, List.set_cons_zero, List.set_cons_succ])
      refine wpAnyG_one 10 (by kernel_rfl) rfl (by rfl) (fun K hK => ?_)
      (try simp only [List.getElem_toArray, List.getElem_cons_succ, List.getElem_cons_zero])
      go_simp
      have gS : Ext wr (w7.alloc (.cells #[.bool b7, .slice A7 k7 c7, .slice B7 l7 d7] 34)) := ext_alloc gS _
      (try go_wp2_with fail)
      refine hK.out _ _ (fun _ => gS) ?_
      clear hK K
      (try simp only [Act.put, List.getElem_toArray, List.getElem_cons_succ, List.getElem_cons_zero, List.setIfInBounds_toArray, List.set_cons_zero, List.set_cons_succ])
      refine wpAnyG_one 11 (by kernel_rfl) rfl (by rfl) (fun K hK => ?_)
      (try simp only [List.getElem_toArray, List.getElem_cons_succ, List.getElem_cons_zero])
      refine wp_append_mine _ (.tmp 13) (.tmp 23) 39 (by rfl) w.heap.size 34 i0 (.agg #[.bool false, .slice none 0 0, .slice none 0 0]) 3 56 Try.underlying39 hi hz0 hz1 hz2 rfl (by omega) _ _ _ (by rfl) (HOWN.out.ext (ext_alloc e7 _)).1.1 ⟨w7.heap.size, 0, none⟩ 1 1 [.bool b7, .slice A7 k7 c7, .slice B7 l7 d7] (by rfl) rfl (cell_three w7 _ _ _ _) (by simp [Value.oneCell']) (by rw [HUL.out]; unfold maxLen; omega) (by rw [HUL.out]; omega) (by have := hy.size; have := e7.size; simp; omega) ?_
      intro v11 w11 ho11 hg11 hw11
      have hO11 : OwnF 34 w.heap.size w.heap.size w11 v11 (ts ++ [⟨b7, .slice A7 k7 c7, .slice B7 l7 d7⟩]) (uptoQ d (k + 1)) := by
        rw [uptoQ_succ]; exact OwnF.grow (t := ⟨b7, .slice A7 k7 c7, .slice B7 l7 d7⟩) HOWN.out (ext_alloc e7 _) (h7.below (ext_alloc (Below.refl _ _) _)) (n7.mono hgs) (m7.mono hgs) hy.size ho11 hg11 hw11
      have hx11 : Ext w w11 := OwnF.grow_ext HOWN.out hy (ext_alloc e7 _) hg11
      clear ho11 hg11 hw11 HOWN h7 x7 n7 m7
      refine hK.out _ _ (fun h => absurd h (by decide)) ?_
      clear hK K
      (try simp only [Act.put, List.getElem_toArray, List.getElem_cons_succ, List.getElem_cons_zero, List.setIfInBounds_toArray, List.set_cons_zero, List.set_cons_succ])
      refine wpAnyG_one 12 (by kernel_rfl) rfl (by rfl) (fun K hK => ?_)
      (try simp only [List.getElem_toArray, List.getElem_cons_succ, List.getElem_cons_zero])
      go_simp
      refine hK.out _ _ (fun h => absurd h (by decide)) ?_
      clear hK K
      (try simp only [Act.put, List.getElem_toArray, List.getElem_cons_succ, List.getElem_cons_zero, List.setIfInBounds_toArray, List.set_cons_zero, List.set_cons_succ])
      refine wpAnyG_done (by kernel_rfl) ?_ _
      go_wp2
      go_roundw
      case rel => exact ⟨k + 1, _, by omega, by go_num, hO11, hx11⟩
      case measure => simp [intOf]; omega
    · obtain rfl : n = k := by omega
      have hkk : ¬ ((n : Int) < (n : Int)) := by omega
      have hF := RowF.of_own rfl hown
      obtain ⟨A9, c9, rfl⟩ := hF.form
      clear hown
      go_wp2
      go_ret
      exact ⟨_, _, rfl, hF, hy⟩

/-- A row is replaced by a new one. -/
def rpl (M : Mx) (k : Nat) (f : Nat → Rat) : Mx := fun i j => if i = k then f j else M i j
theorem MatO.repl {base : Nat} {w w0 : World} {n c k gv cv : Nat} {us xs : List Value} {M : Mx} {u' : Value} {f : Nat → Rat} (h0 : MatO true base w0 (.slice (some ⟨gv, 0, none⟩) n cv) n c us xs M) (hE : Ext w0 w) (hk : k < n) (hr : RowF w0.heap.size w u' c c f) (hB : base ≤ w0.heap.size) :
    MatO true base (w.setCell ⟨gv, k, none⟩ u') (.slice (some ⟨gv, 0, none⟩) n cv) n c (us.set k u') (u' :: xs) (rpl M k f) := by
  have hvl := (h0.lt (b := gv) (.inl rfl)).2
  obtain ⟨ts, r1, r2, r3⟩ := hr
  have hub : ∀ b, u'.ownBlock = some b → w0.heap.size ≤ b ∧ b < w.heap.size := fun b hb => r1.lt b hb
  have hnu : New w0.heap.size u' := fun b hb => (hub b hb).1
  have h := h0.ext hE
  obtain ⟨s1, hg⟩ := World.ownsRow.stored h.own k u'
  have hsz := hg.size
  have hkl : k < us.length := by rw [h.len]; exact hk
  have hget : ∀ l x, (us.set k u')[l]? = some x → (l = k ∧ x = u') ∨ (l ≠ k ∧ us[l]? = some x) := fun l x hx => by
    by_cases hl : l = k
    · subst hl
      rw [List.getElem?_set_self hkl] at hx
      exact .inl ⟨rfl, (Option.some.inj hx).symm⟩
    · rw [List.getElem?_set_ne (fun e => hl e.symm)] at hx
      exact .inr ⟨hl, hx⟩
  have hold : ∀ b, (∃ x ∈ us, x.ownBlock = some b) → b < w0.heap.size := fun b ⟨x, hx, hb⟩ => h0.xlt x (h0.sub x hx) b hb
  refine ⟨by rw [List.length_set]; exact h.len, s1, fun l x hx => ?_, fun l m x y b hx hy hb hb' => ?_, fun x hx b hb => ?_, fun x hx => ?_, fun x hx b hb => ?_⟩
  · rcases hget l x hx with ⟨rfl, rfl⟩ | ⟨hl, hx⟩
    · refine ⟨ts, (ownsRow_base r1 hB).kept hg (.inr fun e => ?_), r2, fun j t ht => ?_⟩
      · have := (hub gv e).1
        omega
      · obtain ⟨m1, m2, m3, m4⟩ := r3 j t ht
        have hj : j < c := by have := (List.getElem?_eq_some_iff.1 ht).1; omega
        have a1 := h0.avd m3
        have a2 := h0.avd m4
        refine ⟨.inl ?_, ⟨a1.1, fun y hy => ?_⟩, ⟨a2.1, fun y hy => ?_⟩⟩
        · show FracV _ _ _ _ (if l = l then f j else M l j)
          rw [if_pos rfl]
          exact (m1 hj).kept (v := .slice (some ⟨gv, 0, none⟩) n cv) hg a1.1 a2.1
        · rcases List.mem_cons.1 hy with rfl | hy
          · exact m2.1
          · exact a1.2 y hy
        · rcases List.mem_cons.1 hy with rfl | hy
          · exact m2.2
          · exact a2.2 y hy
    · obtain ⟨ts', k1, k2, k3⟩ := h0.row l x hx
      have hxl : ∀ b, x.ownBlock = some b → b ≠ gv := fun b hb e => h0.out x (List.mem_of_getElem? hx) b hb (by rw [e]; rfl)
      refine ⟨ts', (k1.kept (Ext.grown hE) (by cases x.ownBlock <;> simp)).kept hg (.inr fun e => hxl gv e rfl), k2, fun j t ht => ?_⟩
      obtain ⟨m1, m2, m3⟩ := k3 j t ht
      have hf := m1.far hnu
      refine ⟨?_, ⟨m2.1, fun y hy => ?_⟩, ⟨m3.1, fun y hy => ?_⟩⟩
      · show Ent true _ _ _ _ (if l = k then f j else M l j)
        rw [if_neg hl]
        exact (m1.below hE).kept (v := .slice (some ⟨gv, 0, none⟩) n cv) hg m2.1 m3.1
      · rcases List.mem_cons.1 hy with rfl | hy
        · exact hf.1
        · exact m2.2 y hy
      · rcases List.mem_cons.1 hy with rfl | hy
        · exact hf.2
        · exact m3.2 y hy
  · rcases hget l x hx with ⟨h1, h2⟩ | ⟨h1, h2⟩
    · rcases hget m y hy with ⟨h3, h4⟩ | ⟨h3, h4⟩
      · omega
      · have := hold b ⟨y, List.mem_of_getElem? h4, hb'⟩
        rw [h2] at hb
        have := (hub b hb).1
        omega
    · rcases hget m y hy with ⟨h3, h4⟩ | ⟨h3, h4⟩
      · have := hold b ⟨x, List.mem_of_getElem? h2, hb⟩
        rw [h4] at hb'
        have := (hub b hb').1
        omega
      · exact h0.dis l m x y b h2 h4 hb hb'
  · obtain ⟨l, hl⟩ := List.getElem?_of_mem hx
    rcases hget l x hl with ⟨_, rfl⟩ | ⟨_, h2⟩
    · intro e
      have e' : gv = b := Option.some.inj e
      have := (hub b hb).1
      omega
    · exact h0.out x (List.mem_of_getElem? h2) b hb
  · obtain ⟨l, hl⟩ := List.getElem?_of_mem hx
    rcases hget l x hl with ⟨_, rfl⟩ | ⟨_, h2⟩
    · exact List.mem_cons_self
    · exact List.mem_cons_of_mem _ (h0.sub x (List.mem_of_getElem? h2))
  · rcases List.mem_cons.1 hx with rfl | hx
    · exact Nat.lt_of_lt_of_le (hub b hb).2 hsz
    · exact Nat.lt_of_lt_of_le (Nat.lt_of_lt_of_le (h0.xlt x hx b hb) hE.size) hsz

/-- A box whose numbers lie behind B, apart from a list that grows. -/
def FIx (B : Nat) (w : World) (b : Nat) (q : Rat) (lv : Value) : Prop := ∃ c A k l A' k' l', FBox w b (.bool c) (.slice A k l) (.slice A' k' l') ∧ FracV w c (.slice A k l) (.slice A' k' l') q ∧ (New B (.slice A k l) ∧ New B (.slice A' k' l')) ∧ Far (.slice A k l) lv ∧ Far (.slice A' k' l') lv
section
variable {B b : Nat} {w w' : World} {q : Rat} {v lv lv' : Value} {us : List Value}
theorem FIx.ext (h : FIx B w b q lv) (hE : Ext w w') : FIx B w' b q lv := by
  obtain ⟨c, A, k, l, A', k', l', h1, h2, h3⟩ := h
  exact ⟨c, A, k, l, A', k', l', h1.below hE, h2.below hE, h3⟩
theorem FIx.fr (h : FIx B w b q lv) (hb : BlkLt B v us) (hB : B ≤ b) (hf : Fr v us w w') : FIx B w' b q lv := by
  obtain ⟨c, A, k, l, A', k', l', h1, h2, h3, h4⟩ := h
  have h5 := (Ent.fr (K := true) (.inl h2) hf (hb.avd h3.1) (hb.avd h3.2)).can
  exact ⟨c, A, k, l, A', k', l', h1.fr hf (hb.not hB), h5, h3, h4⟩
theorem FIx.grow (h : FIx B w b q lv) (hne : lv.ownBlock ≠ some b) (hg : w.grownBy w' lv.ownBlock) (hw : lv'.ownBlock = lv.ownBlock ∨ New w.heap.size lv') : FIx B w' b q lv' := by
  obtain ⟨c, A, k, l, A', k', l', h1, h2, h3, h4, h5⟩ := h
  have hbl : w'.heap[b]? = w.heap[b]? := hg.block b h1.lt (fun e => hne e.symm)
  have hbox : FBox w' b (.bool c) (.slice A k l) (.slice A' k' l') := by
    have e : ∀ o, w'.cell? ⟨b, o, none⟩ = w.cell? ⟨b, o, none⟩ := fun o => World.cell?_of_block hbl
    have e' : ∀ o, w'.frozen? ⟨b, o, none⟩ = w.frozen? ⟨b, o, none⟩ := fun o => World.frozen?_of_block hbl
    obtain ⟨h1, h2, h3, h4, h5, h6⟩ := h1
    exact ⟨(e 0).trans h1, (e 1).trans h2, (e 2).trans h3, (e' 0).trans h4, (e' 1).trans h5, (e' 2).trans h6⟩
  refine ⟨c, A, k, l, A', k', l', hbox, h2.kept hg h4 h5, h3, ?_⟩
  rcases hw with hw | hw
  · exact ⟨h4.same hw, h5.same hw⟩
  · exact ⟨Far.new h2.2.1 hw, Far.new h2.2.2 hw⟩
theorem FIx.put {N : Nat} {s : World} {c : Bool} {A A' : Option Addr} {k l k' l' : Nat} {x0 y0 z0 : Value} (hb : FBox s b x0 y0 z0) (h : FracV s c (.slice A k l) (.slice A' k' l') q) (n1 : New N (.slice A k l)) (n2 : New N (.slice A' k' l')) (hN : b < N) (hB : B ≤ N) (hlv : ∀ g, lv.ownBlock = some g → g < N) : FIx B (((s.setCell ⟨b, 0, none⟩ (.bool c)).setCell ⟨b, 1, none⟩ (.slice A k l)).setCell ⟨b, 2, none⟩ (.slice A' k' l')) b q lv :=
  ⟨c, A, k, l, A', k', l', hb.put _ _ _, FracV.put h n1 n2 hN _ _ _, ⟨n1.mono hB, n2.mono hB⟩, Far.of_new n1 hlv, Far.of_new n2 hlv⟩
end
theorem rpl_scl {S : Mx} {k c : Nat} {q : Rat} (hq : S k c = q) : rpl S k (fun j => S k j * (1 / q)) = scl S k c := by
  funext i j
  unfold rpl
  rw [scl_at]
  split
  · rw [hq, Rat.div_def, Rat.div_def, Rat.one_mul]
  · rfl
theorem elm_rpl {S : Mx} {k c i : Nat} (hi : i ≠ k) {i' j' : Nat} : rpl (fun a b => if a < i then elm S k c a b else S a b) i (fun j => S i j - S k j * S i c) i' j' = if i' < i + 1 then elm S k c i' j' else S i' j' := by
  unfold rpl
  by_cases h1 : i' = i
  · rw [if_pos h1, if_pos (by omega), elm_at, if_neg (by omega), h1, Rat.mul_comm]
  · rw [if_neg h1]
    show (if i' < i then elm S k c i' j' else S i' j') = _
    by_cases h2 : i' < i
    · rw [if_pos h2, if_pos (by omega)]
    · rw [if_neg h2, if_neg (by omega)]

theorem box_rest (w : World) (x y z : Value) (t : TypeId) (o : Nat) (ho : 3 ≤ o) : (w.alloc (.cells #[x, y, z] t)).cell? ⟨w.heap.size, o, none⟩ = none := by
  first
    | (simp [go_sem]; done)
    | (simp [go_sem]; omega)
    | (simp [go_sem, ho]; done)
/-- Limbs do not lie in a box of a fraction. -/
theorem box_far {w : World} {b : Nat} {c : Bool} {s t v : Value} {xs : List Nat} (hb : FBox w b (.bool c) s t) (hs : ∃ A k l, s = .slice A k l) (ht : ∃ A k l, t = .slice A k l) (h3 : ∀ o, 3 ≤ o → w.cell? ⟨b, o, none⟩ = none) (hu : U32s w v xs) : Far v (bxV b) := by
  intro A n cp g e hg
  subst e
  cases hg
  intro hab
  obtain ⟨A', cap, e, _, _, hr⟩ := hu
  injection e with e1 e2 e3
  obtain ⟨ad, e4, _, hc⟩ := hr.2 (by omega)
  rw [← e1] at e4
  cases e4
  obtain ⟨x, hx⟩ : ∃ x, xs[0]? = some x := ⟨_, List.getElem?_eq_getElem (by omega)⟩
  have h0 := hc 0 (.int .u32 x) (by unfold u32s; rw [List.getElem?_map, hx]; rfl)
  rw [add_nought] at h0
  obtain ⟨bb, o, sp⟩ := A
  have hsp : sp = none := Go.Proofs.Ytmfigiifflljpaa.cell_spotF h0
  subst hsp
  have hbb : bb = b := hab
  subst hbb
  obtain ⟨S1, S2, S3, rfl⟩ := hs
  obtain ⟨T1, T2, T3, rfl⟩ := ht
  obtain ⟨q0, q1, q2, _, _, _⟩ := hb
  have ho : o = 0 ∨ o = 1 ∨ o = 2 ∨ 3 ≤ o := by omega
  rcases ho with rfl | rfl | rfl | ho
  · rw [q0] at h0; cases h0
  · rw [q1] at h0; cases h0
  · rw [q2] at h0; cases h0
  · rw [h3 o ho] at h0; cases h0
theorem MatO.addbox {base : Nat} {w : World} {v : Value} {n c B : Nat} {us xs : List Value} {M : Mx} (h : MatO true base w v n c us xs M) (hfar : ∀ (x : Value) (ys : List Nat), U32s w x ys → Far x (bxV B)) (hlt : B < w.heap.size) : MatO true base w v n c us (bxV B :: xs) M :=
  ⟨h.len, h.own, fun k u hu => by
    obtain ⟨ts0, l1, l2, l3⟩ := h.row k u hu
    refine ⟨ts0, l1, l2, fun j t ht => ?_⟩
    obtain ⟨m1, m2, m3⟩ := l3 j t ht
    obtain ⟨_, f1, f2⟩ := m1.can
    refine ⟨m1, ⟨m2.1, fun x hx => ?_⟩, ⟨m3.1, fun x hx => ?_⟩⟩
    · rcases List.mem_cons.1 hx with rfl | hx
      · exact hfar _ _ f1
      · exact m2.2 x hx
    · rcases List.mem_cons.1 hx with rfl | hx
      · exact hfar _ _ f2
      · exact m3.2 x hx, h.dis, h.out, fun u hu => List.mem_cons_of_mem _ (h.sub u hu), fun u hu b hb => by
    rcases List.mem_cons.1 hu with rfl | hu
    · cases hb; exact hlt
    · exact h.xlt u hu b hb⟩

end Go.Proofs.Ytmfigiifflljpaa
