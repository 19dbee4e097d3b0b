/- metal: the reference's Kernel. -/
import Derived.Test.YtmfigiifflljpaaMetL
import Derived.Test.YtmfigiifflljpaaMetZ
set_option linter.unusedVariables false
set_option linter.unusedSimpArgs false
set_option maxRecDepth 100000
namespace Go.Proofs.Ytmfigiifflljpaa
open Go.RowKit Num

/-- The vector as the reference builds it. -/
def kerW (R : Rd) (c i : Nat) : Nat → Rat := fun j => if j ∈ R.leads.take i then -(R.m (R.leads.idxOf j) c) else 0
theorem kerW_zero {R : Rd} {c j : Nat} : (0 : Rat) = kerW R c 0 j := by
  unfold kerW
  rw [List.take_zero]
  simp
theorem kerW_succ {R : Rd} {c i x j : Nat} (hd : R.leads.Nodup) (hx : R.leads[i]? = some x) : (if j = x then -(R.m i c) else kerW R c i j) = kerW R c (i + 1) j := by
  have ht : R.leads.take (i + 1) = R.leads.take i ++ [x] := by rw [List.take_add_one, hx]; rfl
  unfold kerW
  rw [ht]
  by_cases hj : j = x
  · rw [if_pos hj, if_pos (List.mem_append.2 (.inr (List.mem_singleton.2 hj))), hj, idx_at hd hx]
  · rw [if_neg hj]
    by_cases h2 : j ∈ R.leads.take i
    · rw [if_pos h2, if_pos (List.mem_append.2 (.inl h2))]
    · rw [if_neg h2, if_neg (fun h => by
        rcases List.mem_append.1 h with h | h
        · exact h2 h
        · exact hj (List.mem_singleton.1 h))]
theorem kerW_all {R : Rd} {c j : Nat} : (if j = c then 1 else kerW R c R.leads.length j) = kerV R c j := by
  unfold kerW kerV
  rw [List.take_length]
theorem take_mem {l : List Nat} {i x c : Nat} (hx : l[i]? = some x) : c ∈ l.take (i + 1) ↔ c ∈ l.take i ∨ c = x := by
  rw [List.take_add_one, hx, List.mem_append]
  simp
set_option maxHeartbeats 16000000 in
theorem rkernel_ok {K : Bool} {v : Value} {n C L : Nat} {M : Mx} {w : World} (hv : EMat K w v n C M) (hL3 : 3 ≤ L) (hL : L ≤ 1000) (hfb : FBm M n C L) (hn : n ≤ 8) (hC : C ≤ 8) (hz : n = 0 → C = 0) :
    Calls Try.prog 31 #[v] w (GivesM w (frL (rrefs M n C) C).length C (fun i => kerV (rrefs M n C) ((frL (rrefs M n C) C).getD i 0)) 0) := by
  have HVA := Lib.hid (hv.rvalid hn hC)
  have HCO := Lib.hid (fun (w' : World) (h : Ext w w') => (hv.below h).rcols hz)
  have HR := Lib.hid (fun (w' : World) (h : Ext w w') => rred_n (hv.below h) hL3 hL hfb hn (by omega) hz)
  have HFB := Lib.hid ((fbm_rrefs hfb (by omega) C (Nat.le_refl _)).mono (pow7_le (c := C) (L := L) (by omega) hL))
  have HECH := Lib.hid (ech M n C)
  obtain ⟨A0, cap, rfl, hc1, hc2⟩ := hv.form
  obtain ⟨i0, hi, hz0, hz1, hz2⟩ := info_parts info_frac
  obtain ⟨j0, hj, hy0, hy1, hy2⟩ := info_parts info_fl
  obtain ⟨R, hR⟩ : ∃ R, R = rrefs M n C := ⟨_, rfl⟩
  rw [← hR] at HR HFB HECH ⊢
  have hRn : R.leads.length ≤ n := HECH.out.len
  clear hv hfb hz hR
  go_enter Try.func31, Try.ntmps31
  go_upto_region 4 with (first
    | (go_at_call 22; (with_reducible refine HVA.out.mono ?_); rintro e w1 ⟨rfl, x1⟩)
    | (go_at_call 43; (with_reducible refine (HR.out _ x1).mono ?_); rintro e w0 ⟨AM, cM, AL, cL, b4, A4, k4, l4, B4, m4, o4, rfl, hM0, hL0, _, x0⟩))
  have x2 : Ext w1 (w0.alloc (.cells #[.bool b4, .slice A4 k4 l4, .slice B4 m4 o4] 34)) := ext_alloc x0 _
  have hM2 := hM0.below (ext_alloc (Below.refl _ _) (.cells #[.bool b4, .slice A4 k4 l4, .slice B4 m4 o4] 34))
  have hL2 := hL0.below (ext_alloc (Below.refl _ _) (.cells #[.bool b4, .slice A4 k4 l4, .slice B4 m4 o4] 34))
  obtain ⟨G4, hG4⟩ : ∃ G, G = w0.heap.size := ⟨_, rfl⟩
  rw [← hG4]
  generalize w0.alloc (.cells #[.bool b4, .slice A4 k4 l4, .slice B4 m4 o4] 34) = w2 at *
  clear hM0 hL0 x0 hG4
  have hX2 : Ext w w2 := x1.trans x2
  have HM2 := Lib.hid (fun (w' : World) (h : Ext w2 w') => hM2.below h)
  have HL2 := Lib.hid (fun (w' : World) (h : Ext w2 w') => hL2.below h)
  have HCO2 := Lib.hid (fun (w' : World) (h : Ext w2 w') => HCO.out w' (hX2.trans h))
  obtain ⟨X, hX⟩ : ∃ X : Mx, X = fun i => kerV R ((frL R C).getD i 0) := ⟨_, rfl⟩
  have HXD := Lib.hid (fun (c : Nat) (hc : c < C) (hm : c ∉ R.leads) => show X (frL R c).length = kerV R c from by rw [hX]; show kerV R _ = _; rw [(frL_at hc hm).2])
  have HXE := Lib.hid hX
  have hw22 := hX2.size
  clear hM2 hL2 x1 x2 HR HVA HCO hX
  go_wp2
  go_loopw [7, 8] (fun ov iv wr => ∃ (c : Nat) (us : List Value), c ≤ C ∧ iv = .int .i64 c ∧ Hid (MatO true w2.heap.size wr ov (frL R c).length C us us X) ∧ Ext w2 wr) (fun _ iv _ => C - (intOf iv).toNat)
  case atStart => exact ⟨0, [], Nat.zero_le _, rfl, Lib.hid (MatO.nil_ _ _ _ _ _), Below.refl _ _⟩
  case round =>
    obtain ⟨c, us, hc, rfl, HM, hx⟩ := hrel
    by_cases hcC : c < C
    · have hc1' : (0 : Int) ≤ (c : Int) := by omega
      have hc2' : (c : Int) < (C : Int) := by omega
      have hfl := frL_len R c
      obtain ⟨k, hk⟩ : ∃ k, k = (frL R c).length := ⟨_, rfl⟩
      rw [← hk] at HM hfl
      have HK := Lib.hid hk
      clear hk
      obtain ⟨w6, hw6⟩ : ∃ w6, w6 = wr := ⟨_, rfl⟩
      subst hw6
      go_upto_region 10 with (first
        | (go_at_call 52; (with_reducible refine (HCO2.out _ hx).mono ?_); rintro e w7 ⟨rfl, hw7⟩; obtain rfl : w6 = w7 := hw7.symm)
        | (at_make; refine wpList_make_full _ rfl _ _ 39 rfl w6.heap.size 34 i0 (.agg #[.bool false, .slice none 0 0, .slice none 0 0]) 3 Try.underlying39 hi hz0 hz1 _ _ _ _ C rfl rfl (by omega) (by omega) ?b1 ?b2 ?b3 ?_))
      case b1 => rw [hz2]; omega
      case b2 => unfold maxLen; omega
      case b3 => exact Nat.le_refl _
      intro w8 hown hgrow
      rw [madeF] at hown
      have hx8 : Ext w6 w8 := (Below.refl _ _).grown hgrow (Nat.le_refl _) (by simp)
      have hR8 : RowF w6.heap.size w8 (.slice (some ⟨w6.heap.size, 0, none⟩) C C) C 0 (fun _ => 0) := RowF.made hown
      have HM6 := Lib.hid HM.out
      have hx6 : Ext w2 w6 := hx
      obtain ⟨G, hG⟩ : ∃ G, G = w6.heap.size := ⟨_, rfl⟩
      have hGw : w6.heap.size ≤ G := by omega
      have HR8 := Lib.hid (show RowF w6.heap.size w8 (.slice (some ⟨G, 0, none⟩) C C) C 0 (fun _ => 0) from by rw [hG]; exact hR8)
      rw [show (Value.slice (some { block := w6.heap.size, off := 0, spot := none }) C C) = Value.slice (some ⟨G, 0, none⟩) C C from by rw [hG]]
      clear hown hgrow hR8 hG HM hx
      go_wp2
      go_loopw [11] (fun iv wr => ∃ j : Nat, j ≤ C ∧ iv = .int .i64 j ∧ Hid (RowF w6.heap.size wr (.slice (some ⟨G, 0, none⟩) C C) C j (fun _ => 0)) ∧ Ext w6 wr) (fun iv _ => C - (intOf iv).toNat)
      case atStart => exact ⟨0, Nat.zero_le _, rfl, HR8, hx8⟩
      case round =>
        clear HR8 hx8
        obtain ⟨j, hj', rfl, HRJ, hy⟩ := hrel
        by_cases hjC : j < C
        · have hj1 : (0 : Int) ≤ (j : Int) := by omega
          have hj2 : (j : Int) < (C : Int) := by omega
          go_wp2_with (go_at_call 41; (with_reducible refine (rfof_n (n := 0) (d := 1) (by omega) (by omega)).mono ?_); rintro _ s8 ⟨b8, A8, k8, c8, B8, l8, d8, rfl, h8, z8, n8, m8⟩; obtain ⟨⟨_, _, _, q0, q1, q2⟩, f0, f1, f2⟩ := (HRJ.out.ext z8).cells hjC)
          rw [zero_firstM] at h8
          go_roundw
          case rel => exact ⟨j + 1, by omega, by go_num, Lib.hid ((HRJ.out.put (k' := j + 1) z8 hjC (fun i hi => by omega) h8 n8 m8 hy.size).congr fun i hi => by split <;> rfl), rowF_ext (hy.trans z8) hGw _ _ _⟩
          case measure => simp [intOf]; omega
        · obtain rfl : C = j := by omega
          have hjj : ¬ ((C : Int) < (C : Int)) := by omega
          have hLL : R.leads.length ≤ 8 := by omega
          have HR9 := Lib.hid (HRJ.out.congr fun i hi => kerW_zero (R := R) (c := c) (j := i))
          obtain ⟨W9, hW9⟩ : ∃ W9, W9 = wr := ⟨_, rfl⟩
          subst hW9
          clear HRJ
          go_wp2
          go_loopw [9, 12] (fun bv iv wr => ∃ (i : Nat) (b : Bool), i ≤ R.leads.length ∧ bv = .bool b ∧ iv = .int .i64 i ∧ Hid (b = true ↔ c ∈ R.leads.take i) ∧ Hid (RowF w6.heap.size wr (.slice (some ⟨G, 0, none⟩) C C) C C (kerW R c i)) ∧ Ext w6 wr) (fun _ iv _ => R.leads.length - (intOf iv).toNat)
          case atStart => exact ⟨0, false, Nat.zero_le _, rfl, rfl, Lib.hid (by rw [List.take_zero]; simp), HR9, hy⟩
          case round =>
            clear HR9 hy
            obtain ⟨i, bb, hi', rfl, rfl, HBB, HRI, hy⟩ := hrel
            by_cases hil : i < R.leads.length
            · obtain ⟨x, hxi⟩ : ∃ x, R.leads[i]? = some x := ⟨_, List.getElem?_eq_getElem hil⟩
              have hxC : x < C := HECH.out.lt x (List.mem_of_getElem? hxi)
              obtain ⟨bl, ol, rfl, hbl, hcl⟩ := intsM_at (HL2.out _ (hx6.trans hy)) (k := i) (by rw [List.length_map]; exact hil)
              rw [leadI hxi] at hcl
              obtain ⟨bm, om, A5, cp5, rfl, hbm, hcm, hrow⟩ := (HM2.out _ (hx6.trans hy)).at_ (k := i) (by omega)
              obtain ⟨b6, o6, ng, D1, p1, d1, D2, p2, d2, rfl, hb6, e0, e1, e2, he⟩ := hrow.at_ (k := c) hcC
              have HE := Lib.hid (fun (w' : World) (h : Ext wr w') => (he.below h).any (HFB.out i c (by omega) hcC) (by omega) (by omega))
              have hi1 : (0 : Int) ≤ (i : Int) := by omega
              have hi2 : (i : Int) < (n : Int) := by omega
              have hi3 : (i : Int) < (R.leads.length : Int) := by omega
              have hx1 : (0 : Int) ≤ (x : Int) := by omega
              have hx2 : (x : Int) < (C : Int) := by omega
              have HXI := Lib.hid hxi
              have HTM := Lib.hid (take_mem (c := c) hxi)
              have HS := Lib.hid (fun (w' : World) (h : Ext wr w') => (⟨(h.cell (p := ⟨bl, ol + i, none⟩) hbl).trans hcl, (h.cell (p := ⟨bm, om + i, none⟩) hbm).trans hcm, (h.cell (p := ⟨b6, o6 + c * 3, none⟩) hb6).trans e0, (h.cell (p := ⟨b6, o6 + c * 3 + 1, none⟩) hb6).trans e1, (h.cell (p := ⟨b6, o6 + c * 3 + 2, none⟩) hb6).trans e2⟩ : w'.cell? ⟨bl, ol + i, none⟩ = some (.int .i64 (x : Int)) ∧ w'.cell? ⟨bm, om + i, none⟩ = some (.slice (some ⟨b6, o6, none⟩) C cp5) ∧ w'.cell? ⟨b6, o6 + c * 3, none⟩ = some (.bool ng) ∧ w'.cell? ⟨b6, o6 + c * 3 + 1, none⟩ = some (.slice D1 p1 d1) ∧ w'.cell? ⟨b6, o6 + c * 3 + 2, none⟩ = some (.slice D2 p2 d2)))
              clear he hrow hxi e0 e1 e2 hcm
              go_upto_region 17 with (fail)
              go_cut [9] (fun bv wx => wr = wx ∧ ∃ b2 : Bool, bv = .bool b2 ∧ (b2 = true ↔ c ∈ R.leads.take (i + 1)))
              case first =>
                cases bb with
                | true =>
                  go_wp2
                  go_meet
                  exact ⟨rfl, true, rfl, ⟨fun _ => HTM.out.2 (.inl (HBB.out.1 (by trivial))), fun _ => rfl⟩⟩
                | false =>
                  by_cases hxc : x = c
                  · have hxc1 : ((x : Int) == (c : Int)) = true := by rw [beq_iff_eq]; omega
                    subst hxc
                    go_wp2
                    go_meet
                    exact ⟨rfl, true, rfl, ⟨fun _ => HTM.out.2 (.inr (by trivial)), fun _ => rfl⟩⟩
                  · have hxc1 : ((x : Int) == (c : Int)) = false := by rw [beq_eq_false_iff_ne]; omega
                    have hxc2 : ¬ ((x : Int) = (c : Int)) := by omega
                    go_wp2
                    go_meet
                    exact ⟨rfl, false, by first | rfl | (simp; omega), ⟨fun h => (by cases h), fun h => (HTM.out.1 h).elim (fun h => absurd (HBB.out.2 h) (by decide)) (fun h => absurd h.symm hxc)⟩⟩
              case rest =>
                obtain ⟨hww, b2, rfl, hb2⟩ := hcut
                subst hww
                have HB2 := Lib.hid hb2
                clear hb2 hcl
                go_upto_region 18 with (fail)
                refine wp_region_G (fun w' => Ext wr w') [14] (by kernel_rfl) ?_
                have gS : Ext wr wr.drew := (Below.refl _ _).drew
                refine wpAnyG_take 0 (v := ?_) rfl (by kernel_rfl) (by kernel_rfl) (by kernel_rfl) (by kernel_rfl) (by rfl) (by kernel_rfl) (fun _ _ _ h => h) (by rfl) (fun w' hw' => ?_) gS ?_
                rotate_left
                focus (go_simp; (try with_reducible rfl); done)
                (try simp only [Act.put, List.getElem_toArray, List.getElem_cons_succ, List.getElem_cons_zero, List.setIfInBounds_toArray, List.set_cons_zero, List.set_cons_succ])
                refine wpAnyG_take 1 (v := ?_) rfl (by kernel_rfl) (by kernel_rfl) (by kernel_rfl) (by kernel_rfl) (by rfl) (by kernel_rfl) (fun _ _ _ h => h) (by rfl) (fun w' hw' => ?_) gS ?_
                rotate_left
                focus (go_simp; (try with_reducible rfl); done)
                (try simp only [Act.put, List.getElem_toArray, List.getElem_cons_succ, List.getElem_cons_zero, List.setIfInBounds_toArray, List.set_cons_zero, List.set_cons_succ])
                refine wpAnyG_take 2 (v := ?_) rfl (by kernel_rfl) (by kernel_rfl) (by kernel_rfl) (by kernel_rfl) (by rfl) (by kernel_rfl) (fun _ _ _ h => h) (by rfl) (fun w' hw' => ?_) gS ?_
                rotate_left
                focus (go_simp; (try with_reducible rfl); done)
                (try simp only [Act.put, List.getElem_toArray, List.getElem_cons_succ, List.getElem_cons_zero, List.setIfInBounds_toArray, List.set_cons_zero, List.set_cons_succ])
                refine wpAnyG_take 3 (v := ?_) rfl (by kernel_rfl) (by kernel_rfl) (by kernel_rfl) (by kernel_rfl) (by rfl) (by kernel_rfl) (fun _ _ _ h => h) (by rfl) (fun w' hw' => ?_) gS ?_
                rotate_left
                focus (go_simp; (try with_reducible rfl); done)
                (try simp only [Act.put, List.getElem_toArray, List.getElem_cons_succ, List.getElem_cons_zero, List.setIfInBounds_toArray, List.set_cons_zero, List.set_cons_succ])
                refine wpAnyG_take 4 (v := ?_) rfl (by kernel_rfl) (by kernel_rfl) (by kernel_rfl) (by kernel_rfl) (by rfl) (by kernel_rfl) (fun _ _ _ h => h) (by rfl) (fun w' hw' => ?_) gS ?_
                rotate_left
                focus (have hh := HS.out _ hw'; go_split_ands; go_simp; (try with_reducible rfl); done)
                (try simp only [Act.put, List.getElem_toArray, List.getElem_cons_succ, List.getElem_cons_zero, List.setIfInBounds_toArray, List.set_cons_zero, List.set_cons_succ])
                refine wpAnyG_take 5 (v := ?_) rfl (by kernel_rfl) (by kernel_rfl) (by kernel_rfl) (by kernel_rfl) (by rfl) (by kernel_rfl) (fun _ _ _ h => h) (by rfl) (fun w' hw' => ?_) gS ?_
                rotate_left
                focus (go_simp; (try with_reducible rfl); done)
                (try simp only [Act.put, List.getElem_toArray, List.getElem_cons_succ, List.getElem_cons_zero, List.setIfInBounds_toArray, List.set_cons_zero, List.set_cons_succ])
                refine wpAnyG_take 6 (v := ?_) rfl (by kernel_rfl) (by kernel_rfl) (by kernel_rfl) (by kernel_rfl) (by rfl) (by kernel_rfl) (fun _ _ _ h => h) (by rfl) (fun w' hw' => ?_) gS ?_
                rotate_left
                focus (go_simp; (try with_reducible rfl); done)
                (try simp only [Act.put, List.getElem_toArray, List.getElem_cons_succ, List.getElem_cons_zero, List.setIfInBounds_toArray, List.set_cons_zero, List.set_cons_succ])
                refine wpAnyG_take 7 (v := ?_) rfl (by kernel_rfl) (by kernel_rfl) (by kernel_rfl) (by kernel_rfl) (by rfl) (by kernel_rfl) (fun _ _ _ h => h) (by rfl) (fun w' hw' => ?_) gS ?_
                rotate_left
                focus (go_simp; (try with_reducible rfl); done)
                (try simp only [Act.put, List.getElem_toArray, List.getElem_cons_succ, List.getElem_cons_zero, List.setIfInBounds_toArray, List.set_cons_zero, List.set_cons_succ])
                refine wpAnyG_take 8 (v := ?_) rfl (by kernel_rfl) (by kernel_rfl) (by kernel_rfl) (by kernel_rfl) (by rfl) (by kernel_rfl) (fun _ _ _ h => h) (by rfl) (fun w' hw' => ?_) gS ?_
                rotate_left
                focus (have hh := HS.out _ hw'; go_split_ands; go_simp; (try with_reducible rfl); done)
                (try simp only [Act.put, List.getElem_toArray, List.getElem_cons_succ, List.getElem_cons_zero, List.setIfInBounds_toArray, List.set_cons_zero, List.set_cons_succ])
                refine wpAnyG_take 9 (v := ?_) rfl (by kernel_rfl) (by kernel_rfl) (by kernel_rfl) (by kernel_rfl) (by rfl) (by kernel_rfl) (fun _ _ _ h => h) (by rfl) (fun w' hw' => ?_) gS ?_
                rotate_left
                focus (go_simp; (try with_reducible rfl); done)
                (try simp only [Act.put, List.getElem_toArray, List.getElem_cons_succ, List.getElem_cons_zero, List.setIfInBounds_toArray, List.set_cons_zero, List.set_cons_succ])
                refine wpAnyG_take 10 (v := ?_) rfl (by kernel_rfl) (by kernel_rfl) (by kernel_rfl) (by kernel_rfl) (by rfl) (by kernel_rfl) (fun _ _ _ h => h) (by rfl) (fun w' hw' => ?_) gS ?_
                rotate_left
                focus (go_simp; (try with_reducible rfl); done)
                (try simp only [Act.put, List.getElem_toArray, List.getElem_cons_succ, List.getElem_cons_zero, List.setIfInBounds_toArray, List.set_cons_zero, List.set_cons_succ])
                refine wpAnyG_take 11 (v := ?_) rfl (by kernel_rfl) (by kernel_rfl) (by kernel_rfl) (by kernel_rfl) (by rfl) (by kernel_rfl) (fun _ _ _ h => h) (by rfl) (fun w' hw' => ?_) gS ?_
                rotate_left
                focus (have hh := HS.out _ hw'; go_split_ands; go_simp; (try with_reducible rfl); done)
                (try simp only [Act.put, List.getElem_toArray, List.getElem_cons_succ, List.getElem_cons_zero, List.setIfInBounds_toArray, List.set_cons_zero, List.set_cons_succ])
                refine wpAnyG_one 12 (by kernel_rfl) rfl (by rfl) (fun K hK => ?_)
                (try simp only [List.getElem_toArray, List.getElem_cons_succ, List.getElem_cons_zero])
                go_simp
                have gQ := gS
                go_at_call 35
                refine (rneg_f (HE.out _ gS) (by omega)).mono ?_
                rintro _ s8 ⟨b8, A8, k8, c8, B8, l8, d8, rfl, h8, z8, n8, m8⟩
                have gS : Ext wr s8 := Ext.trans gS z8
                have gR := gS
                (try go_wp2_with fail)
                refine hK.out _ _ (fun _ => gS) ?_
                clear hK K
                (try simp only [Act.put, List.getElem_toArray, List.getElem_cons_succ, List.getElem_cons_zero, List.setIfInBounds_toArray, List.set_cons_zero, List.set_cons_succ])
                refine wpAnyG_take 13 (v := ?_) rfl (by kernel_rfl) (by kernel_rfl) (by kernel_rfl) (by kernel_rfl) (by rfl) (by kernel_rfl) (fun _ _ _ h => h) (by rfl) (fun w' hw' => ?_) gS ?_
                rotate_left
                focus (go_simp; (try with_reducible rfl); done)
                (try simp only [Act.put, List.getElem_toArray, List.getElem_cons_succ, List.getElem_cons_zero, List.setIfInBounds_toArray, List.set_cons_zero, List.set_cons_succ])
                obtain ⟨⟨_, _, _, q0, q1, q2⟩, f0, f1, f2⟩ := (HRI.out.ext gS).cells hxC
                refine wpAnyG_one 14 (by kernel_rfl) rfl (by rfl) (fun K hK => ?_)
                (try simp only [List.getElem_toArray, List.getElem_cons_succ, List.getElem_cons_zero])
                go_simp
                refine hK.out _ _ (fun h => absurd h (by decide)) ?_
                clear hK K
                (try simp only [Act.put, List.getElem_toArray, List.getElem_cons_succ, List.getElem_cons_zero, List.setIfInBounds_toArray, List.set_cons_zero, List.set_cons_succ])
                refine wpAnyG_done (by kernel_rfl) ?_ _
                go_wp2
                go_roundw
                case rel => exact ⟨i + 1, b2, by omega, rfl, by go_num, HB2, Lib.hid ((HRI.out.put (k' := C) gR hxC (fun i hi => .inr hi) h8 (n8.mono gQ.size) (m8.mono gQ.size) hy.size).congr fun j hj => kerW_succ (asc_nodup HECH.out.asc) HXI.out), rowF_ext (hy.trans gR) hGw _ _ _⟩
                case measure => simp [intOf]; omega
            · obtain rfl : i = R.leads.length := by omega
              have hii : ¬ ((R.leads.length : Int) < (R.leads.length : Int)) := by omega
              have HBM := Lib.hid (show bb = true ↔ c ∈ R.leads from by have := HBB.out; rwa [List.take_length] at this)
              go_upto_region 20 with (go_at_call 57; (with_reducible refine rone_n.mono ?_); rintro _ s8 ⟨b8, A8, k8, c8, B8, l8, d8, rfl, h8, z8, n8, m8⟩; obtain ⟨⟨_, _, _, q0, q1, q2⟩, f0, f1, f2⟩ := (HRI.out.ext z8).cells hcC)
              have HRE := Lib.hid ((HRI.out.put (k' := C) z8 hcC (fun i hi => .inr hi) h8 n8 m8 hy.size).congr fun j hj => kerW_all (R := R))
              have hx9 := rowF_ext (hy.trans z8) (g0 := G) (j := c) hGw (.bool b8) (.slice A8 k8 c8) (.slice B8 l8 d8)
              generalize ((s8.setCell ⟨G, c * 3, none⟩ (.bool b8)).setCell ⟨G, c * 3 + 1, none⟩ (.slice A8 k8 c8)).setCell ⟨G, c * 3 + 2, none⟩ (.slice B8 l8 d8) = W10 at *
              clear HRI h8 n8 m8 z8 hy q0 q1 q2 f0 f1 f2
              cases bb with
              | true =>
                have HFL := Lib.hid (frL_in (HBM.out.1 rfl))
                go_wp2
                go_roundw
                case rel => exact ⟨c + 1, us, by omega, by go_num, by rw [HFL.out, ← HK.out]; exact Lib.hid (HM6.out.ext hx9), hx6.trans hx9⟩
                case measure => simp [intOf]; omega
              | false =>
                have hmem : c ∉ R.leads := fun h => absurd (HBM.out.2 h) (by decide)
                have HFL := Lib.hid (frL_out hmem)
                have HXC := Lib.hid (show X k = kerV R c from by rw [HK.out]; exact HXD.out c hcC hmem)
                clear hmem
                go_wp2_with (at_builtin; refine wpList_append_mine _ (by rfl) (.tmp 76) (.tmp 78) 22 (by rfl) w2.heap.size 39 j0 (.slice none 0 0) 1 24 Try.underlying22 hj hy0 hy1 hy2 rfl (by omega) _ _ _ (by rfl) (HM6.out.ext (ext_alloc hx9 _)).own ⟨W10.heap.size, 0, none⟩ 1 1 [.slice (some ⟨G, 0, none⟩) C C] (by rfl) rfl (cell_one W10 _ _) (by simp [Value.oneCell']) (by unfold maxLen; omega) (by omega) (by have := hx6.size; have := hx9.size; simp; omega) ?_; intro v8 w8 ho8 hg8 hw8)
                have hM8 := Lib.hid (HM6.out.push_row hx6.size (ext_alloc hx9 _) (HRE.out.ext (ext_alloc (Below.refl _ _) _)) (fun j hj => by rw [HXC.out]) ho8 hg8 hw8)
                have hx8 : Ext w2 w8 := Below.grown (Ext.trans hx6 (ext_alloc hx9 _)) hg8 (by have := hx6.size; have := hx9.size; simp; omega) fun g hg => (HM6.out.lt (.inl hg)).1
                have HFL2 := Lib.hid (show (frL R (c + 1)).length = k + 1 from by rw [HFL.out, List.length_append, HK.out]; rfl)
                clear ho8 hg8 hw8
                go_roundw
                case rel => exact ⟨c + 1, _, by omega, by go_num, by rw [HFL2.out]; exact hM8, hx8⟩
                case measure => simp [intOf]; omega
    · obtain rfl : C = c := by omega
      have hcc : ¬ ((C : Int) < (C : Int)) := by omega
      have hE := HM.out.mat
      obtain ⟨A9, c9, rfl, _, _⟩ := hE.form
      rw [HXE.out] at hE
      clear HM
      go_wp2_with (go_at_call 52; (with_reducible refine (HCO2.out _ hx).mono ?_); rintro e w7 ⟨rfl, hw7⟩; obtain rfl : wr = w7 := hw7.symm)
      go_ret2
      exact ⟨_, _, rfl, hE, hX2.trans hx⟩
set_option maxHeartbeats 4000000 in
theorem rkernel_no {v : Value} {ls : List Nat} {w : World} (hv : LMat w v ls) (hl : ¬ validL ls) :
    Calls Try.prog 31 #[v] w (fun e w' => e = .returned (.tuple #[.slice none 0 0, .int .i64 1]) ∧ Ext w w') := by
  have HV := Lib.hid (hv.rinvalid hl)
  obtain ⟨A, cap, rfl, _, _⟩ := hv.form
  clear hv hl
  go_enter Try.func31, Try.ntmps31
  go_wp2_with (go_at_call 22; (with_reducible refine HV.out.mono ?_); rintro e w1 ⟨rfl, x1⟩)
  go_ret2
  exact ⟨rfl, x1⟩

end Go.Proofs.Ytmfigiifflljpaa
