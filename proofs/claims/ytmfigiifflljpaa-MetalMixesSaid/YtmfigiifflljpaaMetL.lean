/- metal: Kernel, the walk. -/
import Derived.Test.YtmfigiifflljpaaMetK
set_option linter.unusedVariables false
set_option linter.unusedSimpArgs false
set_option maxRecDepth 100000
namespace Go.Proofs.Ytmfigiifflljpaa
open Go.RowKit Num

theorem leadI {l : List Nat} {i x : Nat} (h : l[i]? = some x) : (l.map (fun l : Nat => (l : Int))).getD i 0 = (x : Int) := by
  rw [List.getD_eq_getElem?_getD, List.getElem?_map, h]
  rfl
set_option maxHeartbeats 16000000 in
theorem mkernel_ok {K : Bool} {v : Value} {n C L : Nat} {M : Mx} {w : World} (hv : EMat K w v n C M) (hL3 : 3 ≤ L) (hL : L ≤ 1000) (hfb : FBm M n C L) (hn : n ≤ 8) (hC : C ≤ 8) (hz : n = 0 → C = 0) :
    Calls Try.prog 30 #[v] w (GivesM w (frL (rrefs M n C) C).length C (fun i => kerV (rrefs M n C) ((frL (rrefs M n C) C).getD i 0)) 0) := by
  have HVA := Lib.hid (hv.valid hn hC)
  have HCO := Lib.hid (fun (w' : World) (h : Ext w w') => (hv.below h).cols hz)
  have HR := Lib.hid (fun (w' : World) (h : Ext w w') => mred_n (hv.below h) hL3 hL hfb hn (by omega) hz)
  have HFB := Lib.hid ((fbm_rrefs hfb (by omega) C (Nat.le_refl _)).mono (pow7_le (c := C) (L := L) (by omega) hL))
  have HECH := Lib.hid (ech M n C)
  obtain ⟨A0, cap, rfl, hc1, hc2⟩ := hv.form
  obtain ⟨i0, hi, hz0, hz1, hz2⟩ := info_parts info_frac
  obtain ⟨j0, hj, hy0, hy1, hy2⟩ := info_parts info_fl
  obtain ⟨R, hR⟩ : ∃ R, R = rrefs M n C := ⟨_, rfl⟩
  rw [← hR] at HR HFB HECH ⊢
  have hRn : R.leads.length ≤ n := HECH.out.len
  clear hv hfb hz hR
  go_enter Try.func30, Try.ntmps30
  go_wp2_with (first
    | (go_at_call 21; (with_reducible refine HVA.out.mono ?_); rintro e w1 ⟨rfl, x1⟩)
    | (go_at_call 42; (with_reducible refine (HR.out _ x1).mono ?_); rintro e w2 ⟨AM, cM, AL, cL, rfl, hM2, hL2, x2⟩)
    | (go_at_call 44; (with_reducible refine (HCO.out _ (x1.trans x2)).mono ?_); rintro e w3 ⟨rfl, hw3⟩; obtain rfl : w2 = w3 := hw3.symm))
  have hX2 : Ext w w2 := x1.trans x2
  have HM2 := Lib.hid (fun (w' : World) (h : Ext w2 w') => hM2.below h)
  have HL2 := Lib.hid (fun (w' : World) (h : Ext w2 w') => hL2.below h)
  have HCO2 := Lib.hid (fun (w' : World) (h : Ext w2 w') => HCO.out w' (hX2.trans h))
  obtain ⟨X, hX⟩ : ∃ X : Mx, X = fun i => kerV R ((frL R C).getD i 0) := ⟨_, rfl⟩
  have HXD := Lib.hid (fun (c : Nat) (hc : c < C) (hm : c ∉ R.leads) => show X (frL R c).length = kerV R c from by rw [hX]; show kerV R _ = _; rw [(frL_at hc hm).2])
  have HXE := Lib.hid hX
  have hw22 := hX2.size
  clear hM2 hL2 x1 x2 HR HVA HCO hX
  go_loopw [6, 22] (fun ov iv wr => ∃ (c : Nat) (us : List Value), c ≤ C ∧ iv = .int .i64 c ∧ Hid (MatO true w2.heap.size wr ov (frL R c).length C us us X) ∧ Ext w2 wr) (fun _ iv _ => C - (intOf iv).toNat)
  case atStart => exact ⟨0, [], Nat.zero_le _, rfl, Lib.hid (MatO.nil_ _ _ _ _ _), Below.refl _ _⟩
  case round =>
    obtain ⟨c, us, hc, rfl, HM, hx⟩ := hrel
    by_cases hcC : c < C
    · have hc1' : (0 : Int) ≤ (c : Int) := by omega
      have hc2' : (c : Int) < (C : Int) := by omega
      by_cases hmem : c ∈ R.leads
      · have HMM := Lib.hid (show decide ((c : Int) ∈ R.leads.map (fun l : Nat => (l : Int))) = true from decide_eq_true (nat_mem.2 hmem))
        have HFL := Lib.hid (frL_in hmem)
        clear hmem
        go_wp2_with (go_at_call 54; (with_reducible refine (contains_l (HL2.out _ hx) (by rw [List.length_map]; omega)).mono ?_); rw [HMM.out]; rintro e w6 ⟨rfl, x6⟩)
        go_roundw
        case rel => exact ⟨c + 1, us, by omega, by go_num, by rw [HFL.out]; exact Lib.hid (HM.out.ext x6), hx.trans x6⟩
        case measure => simp [intOf]; omega
      · have HMM := Lib.hid (show decide ((c : Int) ∈ R.leads.map (fun l : Nat => (l : Int))) = false from decide_eq_false (fun h => hmem (nat_mem.1 h)))
        have HFL := Lib.hid (frL_out hmem)
        have HXC := Lib.hid (HXD.out c hcC hmem)
        have HNM := Lib.hid hmem
        have hfl := frL_len R c
        obtain ⟨k, hk⟩ : ∃ k, k = (frL R c).length := ⟨_, rfl⟩
        rw [← hk] at HM HXC hfl
        have HK := Lib.hid hk
        clear hmem hk
        go_upto_region 10 with (first
          | (go_at_call 54; (with_reducible refine (contains_l (HL2.out _ hx) (by rw [List.length_map]; omega)).mono ?_); rw [HMM.out]; rintro e w6 ⟨rfl, x6⟩)
          | (go_at_call 44; (with_reducible refine (HCO2.out _ (hx.trans x6)).mono ?_); rintro e w7 ⟨rfl, hw7⟩; obtain rfl : w6 = w7 := hw7.symm)
          | (at_make; refine wpList_make_full _ rfl _ _ 39 rfl w6.heap.size 34 i0 (.agg #[.bool false, .slice none 0 0, .slice none 0 0]) 3 Try.underlying39 hi hz0 hz1 _ _ _ _ C rfl rfl (by omega) (by omega) ?b1 ?b2 ?b3 ?_))
        case b1 => rw [hz2]; omega
        case b2 => unfold maxLen; omega
        case b3 => exact Nat.le_refl _
        intro w8 hown hgrow
        rw [madeF] at hown
        have hx8 : Ext w6 w8 := (Below.refl _ _).grown hgrow (Nat.le_refl _) (by simp)
        have hR8 : RowF w6.heap.size w8 (.slice (some ⟨w6.heap.size, 0, none⟩) C C) C 0 (fun _ => 0) := RowF.made hown
        have HM6 := Lib.hid (HM.out.ext x6)
        have hx6 : Ext w2 w6 := hx.trans x6
        obtain ⟨G, hG⟩ : ∃ G, G = w6.heap.size := ⟨_, rfl⟩
        have hGw : w6.heap.size ≤ G := by omega
        have HR8 := Lib.hid (show RowF w6.heap.size w8 (.slice (some ⟨G, 0, none⟩) C C) C 0 (fun _ => 0) from by rw [hG]; exact hR8)
        rw [show (Value.slice (some { block := w6.heap.size, off := 0, spot := none }) C C) = Value.slice (some ⟨G, 0, none⟩) C C from by rw [hG]]
        clear hown hgrow hR8 hG HM hx x6
        go_wp2
        go_loopw [33] (fun iv wr => ∃ j : Nat, j ≤ C ∧ iv = .int .i64 j ∧ Hid (RowF w6.heap.size wr (.slice (some ⟨G, 0, none⟩) C C) C j (fun _ => 0)) ∧ Ext w6 wr) (fun iv _ => C - (intOf iv).toNat)
        case atStart => exact ⟨0, Nat.zero_le _, rfl, HR8, hx8⟩
        case round =>
          clear HR8 hx8
          obtain ⟨j, hj', rfl, HRJ, hy⟩ := hrel
          by_cases hjC : j < C
          · have hj1 : (0 : Int) ≤ (j : Int) := by omega
            have hj2 : (j : Int) < (C : Int) := by omega
            go_wp2_with (go_at_call 46; (with_reducible refine (fof_n (n := 0) (d := 1) (by omega) (by omega)).mono ?_); rintro _ s8 ⟨b8, A8, k8, c8, B8, l8, d8, rfl, h8, z8, n8, m8⟩; obtain ⟨⟨_, _, _, q0, q1, q2⟩, f0, f1, f2⟩ := (HRJ.out.ext z8).cells hjC)
            rw [zero_firstM] at h8
            go_roundw
            case rel => exact ⟨j + 1, by omega, by go_num, Lib.hid ((HRJ.out.put (k' := j + 1) z8 hjC (fun i hi => by omega) h8 n8 m8 hy.size).congr fun i hi => by split <;> rfl), rowF_ext (hy.trans z8) hGw _ _ _⟩
            case measure => simp [intOf]; omega
          · obtain rfl : C = j := by omega
            have hjj : ¬ ((C : Int) < (C : Int)) := by omega
            have hLL : R.leads.length ≤ 8 := by omega
            go_upto_region 16 with (go_at_call 46; (with_reducible refine (fof_n (n := 1) (d := 1) (by omega) (by omega)).mono ?_); rintro _ s8 ⟨b8, A8, k8, c8, B8, l8, d8, rfl, h8, z8, n8, m8⟩; obtain ⟨⟨_, _, _, q0, q1, q2⟩, f0, f1, f2⟩ := (HRJ.out.ext z8).cells hcC)
            rw [one_firstM] at h8
            have HR9 := Lib.hid ((HRJ.out.put (k' := C) z8 hcC (fun i hi => by omega) h8 n8 m8 hy.size).congr fun i hi => kerT_zero (R := R))
            have hx9 := rowF_ext (hy.trans z8) (g0 := G) (j := c) hGw (.bool b8) (.slice A8 k8 c8) (.slice B8 l8 d8)
            generalize ((s8.setCell ⟨G, c * 3, none⟩ (.bool b8)).setCell ⟨G, c * 3 + 1, none⟩ (.slice A8 k8 c8)).setCell ⟨G, c * 3 + 2, none⟩ (.slice B8 l8 d8) = W9 at *
            clear HRJ h8 n8 m8 z8 hy q0 q1 q2 f0 f1 f2
            go_wp2
            go_loopw [47] (fun iv wr => ∃ i : Nat, i ≤ R.leads.length ∧ iv = .int .i64 i ∧ Hid (RowF w6.heap.size wr (.slice (some ⟨G, 0, none⟩) C C) C C (kerT R c i)) ∧ Ext w6 wr) (fun iv _ => R.leads.length - (intOf iv).toNat)
            case atStart => exact ⟨0, Nat.zero_le _, rfl, HR9, hx9⟩
            case round =>
              clear HR9 hx9
              obtain ⟨i, hi', rfl, HRI, hy⟩ := hrel
              by_cases hil : i < R.leads.length
              · obtain ⟨x, hxi⟩ : ∃ x, R.leads[i]? = some x := ⟨_, List.getElem?_eq_getElem hil⟩
                have hxC : x < C := HECH.out.lt x (List.mem_of_getElem? hxi)
                obtain ⟨bl, ol, rfl, hbl, hcl⟩ := intsM_at (HL2.out _ (hx6.trans hy)) (k := i) (by rw [List.length_map]; exact hil)
                rw [leadI hxi] at hcl
                obtain ⟨bm, om, A5, cp5, rfl, hbm, hcm, hrow⟩ := (HM2.out _ (hx6.trans hy)).at_ (k := i) (by omega)
                obtain ⟨b6, o6, ng, D1, p1, d1, D2, p2, d2, rfl, hb6, e0, e1, e2, he⟩ := hrow.at_ (k := c) hcC
                have HE := Lib.hid (he.any (HFB.out i c (by omega) hcC) (by omega) (by omega))
                have hi1 : (0 : Int) ≤ (i : Int) := by omega
                have hi2 : (i : Int) < (n : Int) := by omega
                have hi3 : (i : Int) < (R.leads.length : Int) := by omega
                have hx1 : (0 : Int) ≤ (x : Int) := by omega
                have hx2 : (x : Int) < (C : Int) := by omega
                have HXI := Lib.hid hxi
                clear he hrow hxi
                go_wp2_with (go_at_call 48; (with_reducible refine (neg_f HE.out (by omega)).mono ?_); rintro _ s8 ⟨b8, A8, k8, c8, B8, l8, d8, rfl, h8, z8, n8, m8⟩; obtain ⟨⟨_, _, _, q0, q1, q2⟩, f0, f1, f2⟩ := (HRI.out.ext z8).cells hxC)
                go_roundw
                case rel => exact ⟨i + 1, by omega, by go_num, Lib.hid ((HRI.out.put (k' := C) z8 hxC (fun i hi => .inr hi) h8 n8 m8 hy.size).congr fun j hj => kerT_succ (asc_nodup HECH.out.asc) HXI.out HNM.out), rowF_ext (hy.trans z8) hGw _ _ _⟩
                case measure => simp [intOf]; omega
              · obtain rfl : i = R.leads.length := by omega
                have hii : ¬ ((R.leads.length : Int) < (R.leads.length : Int)) := by omega
                have HRE := Lib.hid (HRI.out.congr (g := X k) fun j hj => by rw [kerT_all, HXC.out])
                clear HRI
                go_wp2_with (at_builtin; refine wpList_append_mine _ (by rfl) (.tmp 64) (.tmp 66) 22 (by rfl) w2.heap.size 39 j0 (.slice none 0 0) 1 24 Try.underlying22 hj hy0 hy1 hy2 rfl (by omega) _ _ _ (by rfl) (HM6.out.ext (ext_alloc hy _)).own ⟨wr.heap.size, 0, none⟩ 1 1 [.slice (some ⟨G, 0, none⟩) C C] (by rfl) rfl (cell_one wr _ _) (by simp [Value.oneCell']) (by unfold maxLen; omega) (by omega) (by have := hx6.size; have := hy.size; simp; omega) ?_; intro v8 w8 ho8 hg8 hw8)
                have hM8 := Lib.hid (HM6.out.push_row hx6.size (ext_alloc hy _) (HRE.out.ext (ext_alloc (Below.refl _ _) _)) (fun j hj => rfl) ho8 hg8 hw8)
                have hx8 : Ext w2 w8 := Below.grown (Ext.trans hx6 (ext_alloc hy _)) hg8 (by have := hx6.size; have := hy.size; simp; omega) fun g hg => (HM6.out.lt (.inl hg)).1
                have HFL2 := Lib.hid (show (frL R (c + 1)).length = k + 1 from by rw [HFL.out, List.length_append, HK.out]; rfl)
                clear ho8 hg8 hw8
                go_roundw
                case rel => exact ⟨c + 1, _, by omega, by go_num, by rw [HFL2.out]; exact hM8, hx8⟩
                case measure => simp [intOf]; omega
    · obtain rfl : C = c := by omega
      have hcc : ¬ ((C : Int) < (C : Int)) := by omega
      have hE := HM.out.mat
      obtain ⟨A9, c9, rfl, _, _⟩ := hE.form
      rw [HXE.out] at hE
      clear HM
      go_wp2
      go_ret2
      exact ⟨_, _, rfl, hE, hX2.trans hx⟩
set_option maxHeartbeats 4000000 in
theorem mkernel_no {v : Value} {ls : List Nat} {w : World} (hv : LMat w v ls) (hl : ¬ validL ls) :
    Calls Try.prog 30 #[v] w (fun e w' => e = .returned (.tuple #[.slice none 0 0, .int .i64 1]) ∧ Ext w w') := by
  have HV := Lib.hid (hv.invalid hl)
  obtain ⟨A, cap, rfl, _, _⟩ := hv.form
  clear hv hl
  go_enter Try.func30, Try.ntmps30
  go_wp2_with (go_at_call 21; (with_reducible refine HV.out.mono ?_); rintro e w1 ⟨rfl, x1⟩)
  go_ret2
  exact ⟨rfl, x1⟩

end Go.Proofs.Ytmfigiifflljpaa
