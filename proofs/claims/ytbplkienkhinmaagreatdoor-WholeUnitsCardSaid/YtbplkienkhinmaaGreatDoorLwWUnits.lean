/- WholeUnits: the walk of the law. -/
import Derived.Test.YtbplkienkhinmaaGreatDoorUnA
import Derived.Test.YtbplkienkhinmaaGreatDoorUnC
import Derived.Test.YtbplkienkhinmaaGreatDoorUnF
import Derived.Test.YtbplkienkhinmaaGreatDoorUnEr
import Derived.Test.YtbplkienkhinmaaGreatDoorOpnI
import Derived.Test.YtbplkienkhinmaaGreatDoorOpn
import Derived.Test.YtbplkienkhinmaaGreatDoorWf
set_option linter.unusedVariables false
set_option linter.unusedSimpArgs false
set_option maxRecDepth 100000
namespace Go.Proofs.YtbplkienkhinmaaGreatDoor
open Go.RowKit Num

theorem com_len5 {tol : Int} {m : Nat} (hm : m ≤ 6) (w : Int) (ws : List Int) (h : ws.length ≤ 5) : (comTo tol m w ws).length ≤ 50000 := by
  have h1 := comTo_length (tol := tol) (m := m) ws (spansL w tol m)
  have h2 : (spansL w tol m).length ≤ m := spansTo_length w tol m m
  have h3 : m ^ ws.length ≤ 6 ^ 5 := by
    have a : m ^ ws.length ≤ 6 ^ ws.length := Nat.pow_le_pow_left hm _
    have b : 6 ^ ws.length ≤ 6 ^ 5 := Nat.pow_le_pow_right (by omega) h
    exact Nat.le_trans a b
  have h4 : (spansL w tol m).length * m ^ ws.length ≤ 6 * 6 ^ 5 := Nat.mul_le_mul (by omega) h3
  unfold comTo
  omega
/-- The greatest error is within the tolerance exactly if the unit fits each weight. -/
theorem err_all {tol : Int} {m : Nat} {u : Rat} {l : List Int} (hw : Wts l) (ht : 0 ≤ tol) (hm : 1 ≤ m) (hu : 1 ≤ u) : errTo u m l ≤ (tol : Rat) ↔ (l.all fun v => inS (spansL v tol m) u) = true := by
  have ht' : (0 : Rat) ≤ (tol : Rat) := by exact_mod_cast ht
  rw [err_le ht', List.all_eq_true]
  constructor
  · intro h v hv
    exact (fits_rest (hw v hv).1 ht hm hu).2 (h v hv)
  · intro h v hv
    exact (fits_rest (hw v hv).1 ht hm hu).1 (h v hv)
theorem inner_score {tol : Int} {m : Nat} {u : Rat} {l zs : List Int} (hz : ∀ x ∈ zs, x ∈ l) (h : (l.all fun v => inS (spansL v tol m) u) = true) : scoreN tol m u zs = zs.length := by
  rw [score_all, List.all_eq_true]
  rw [List.all_eq_true] at h
  exact fun x hx => h x (hz x hx)
theorem all_take_succ (l : List Int) (f : Int → Bool) {k : Nat} {v : Int} (h : l[k]? = some v) : (l.take (k + 1)).all f = ((l.take k).all f && f v) := by
  rw [List.take_add_one, h, List.all_append]
  simp
theorem fb_oneU : FB (1 : Rat) 3 := by
  have h : FB (((1 : Int) : Rat) / ((1 : Int) : Rat)) 3 := fb_i64 (by omega) (by omega)
  rwa [show ((1 : Int) : Rat) / ((1 : Int) : Rat) = 1 from by decide +kernel] at h
theorem one_overU : ((1 : Int) : Rat) / ((1 : Int) : Rat) = 1 := by decide +kernel
theorem cmp_ge {p q : Rat} : 0 ≤ cmpQ p q ↔ q ≤ p := by
  constructor
  · intro h
    have : ¬ p < q := fun h2 => by have := (cmpQ_neg p q).2 h2; omega
    grind
  · intro h
    have : ¬ cmpQ p q < 0 := fun h2 => by have := (cmpQ_neg p q).1 h2; grind
    omega

set_option maxHeartbeats 32000000 in
theorem law_WUnits {v0 v1 v2 : Value} {zs : List Int} {z1 : FracIn} {z2 : Int × Int} {w : World} (h0 : KInts .i64 w v0 zs) (h1 : KFrac w v1 z1) (h2 : v2 = .agg #[.int .i64 z2.1, .int .i64 z2.2] ∧ (Lit.int .i64 z2.1).wf = true ∧ (Lit.int .i64 z2.2).wf = true) (ht : Tab10 w) :
    Calls Tryz.prog 3 #[v0, v1, v2] w (fun e w' => e = .returned (.bool true) ∧ Ext w w') := by
  have hv := h0.ints
  obtain ⟨A0, c0, rfl, hc1, hc2, _⟩ := id hv
  obtain ⟨ng, nl, nv, dl, dv⟩ := z1
  obtain ⟨s, t, rfl, hs, hd⟩ := h1
  dsimp only at hs hd ⊢
  obtain ⟨rfl, _, _⟩ := h2
  obtain ⟨ca, cb⟩ := z2
  dsimp only
  have HV := Lib.hid (fun (w' : World) (h : Ext w w') => hv.below h)
  have HT := Lib.hid (fun (w' : World) (h : Ext w w') => ht.ext h)
  have HSL := Lib.hid (fun (w' : World) (h : Ext w w') => hs.below h)
  have HDL := Lib.hid (fun (w' : World) (h : Ext w w') => hd.below h)
  obtain ⟨A, c, rfl⟩ := hs.form
  obtain ⟨A', c', rfl⟩ := hd.form
  clear ht h0 hs hd hv
  go_enter Tryz.func3, Tryz.ntmps3
  go_upto_region 1 with (fail)
  have hB0 := (FBox.new w (.bool ng) (.slice A nl c) (.slice A' dl c') 27).below (ext_alloc (Below.refl _ _) (.cells #[.int .i64 ca, .int .i64 cb] 28))
  have hB10 : ((w.alloc (.cells #[.bool ng, .slice A nl c, .slice A' dl c'] 27)).alloc (.cells #[.int .i64 ca, .int .i64 cb] 28)).cell? ⟨w.heap.size + 1, 0, none⟩ = some (.int .i64 ca) := by simp [go_sem]
  have hB11 : ((w.alloc (.cells #[.bool ng, .slice A nl c, .slice A' dl c'] 27)).alloc (.cells #[.int .i64 ca, .int .i64 cb] 28)).cell? ⟨w.heap.size + 1, 1, none⟩ = some (.int .i64 cb) := by simp [go_sem]
  have x0 : Ext w ((w.alloc (.cells #[.bool ng, .slice A nl c, .slice A' dl c'] 27)).alloc (.cells #[.int .i64 ca, .int .i64 cb] 28)) := ext_alloc (ext_alloc (Below.refl _ _) _) _
  have hs0 : w.heap.size + 1 + 1 ≤ ((w.alloc (.cells #[.bool ng, .slice A nl c, .slice A' dl c'] 27)).alloc (.cells #[.int .i64 ca, .int .i64 cb] 28)).heap.size := by simp
  generalize ((w.alloc (.cells #[.bool ng, .slice A nl c, .slice A' dl c'] 27)).alloc (.cells #[.int .i64 ca, .int .i64 cb] 28)) = W0 at *
  have HB0 := Lib.hid (fun (w' : World) (h : Ext W0 w') => hB0.below h)
  obtain ⟨c00, c01, c02, d00, d01, d02⟩ := hB0
  have HB1 := Lib.hid (fun (w' : World) (h : Ext W0 w') => (⟨(h.cell (p := ⟨w.heap.size + 1, 0, none⟩) (World.block_lt_of_cell? _ _ hB10)).trans hB10, (h.cell (p := ⟨w.heap.size + 1, 1, none⟩) (World.block_lt_of_cell? _ _ hB11)).trans hB11⟩ : w'.cell? ⟨w.heap.size + 1, 0, none⟩ = some (.int .i64 ca) ∧ w'.cell? ⟨w.heap.size + 1, 1, none⟩ = some (.int .i64 cb)))
  clear hB10 hB11
  have HE := Lib.hid x0
  clear x0
  have f0 : Ext W0 W0 := Below.refl _ _
  obtain ⟨c10, c11⟩ := HB1.out _ f0
  go_wp2_with fail
  refine (uclip (n := ca) (low := 0) (high := 5000) (by omega)).mono ?_
  rintro e U0 ⟨⟨tol, rfl, ht0, ht1⟩, hU⟩
  obtain rfl : W0 = U0 := hU.symm
  go_wp2_with fail
  refine (uclip (n := cb) (low := 1) (high := 6) (by omega)).mono ?_
  rintro e U0 ⟨⟨mz, rfl, hm0, hm1⟩, hU⟩
  obtain rfl : W0 = U0 := hU.symm
  obtain ⟨m, rfl⟩ : ∃ m : Nat, mz = (m : Int) := ⟨mz.toNat, by omega⟩
  clear c10 c11 c00 c01 c02 d00 d01 d02
  go_wp2_with fail
  refine (uawake (HT.out _ HE.out)).mono ?_
  rintro e U1 ⟨rfl, y1⟩
  have HY1 := Lib.hid (HE.out.trans y1)
  obtain ⟨c00, c01, c02, _, _, _⟩ := HB0.out _ y1
  have HUB := Lib.hid (fun (w' : World) (h : Ext U1 w') => HB0.out w' (y1.trans h))
  clear y1 HB1
  by_cases q1 : zs.length < 1
  · have e1 : decide ((zs.length : Int) < 1) = true := decide_eq_true (by omega)
    have e1' : (zs.length : Int) < 1 := by omega
    go_wp2_with fail
    refine (uawake (HT.out _ HY1.out)).mono ?_
    rintro e U9 ⟨rfl, y9⟩
    go_wp2
    go_ret
    exact ⟨rfl, (HY1.out).trans y9⟩
  have e1 : decide ((zs.length : Int) < 1) = false := decide_eq_false (by omega)
  have e1' : ¬ (zs.length : Int) < 1 := by omega
  by_cases q2 : 6 < zs.length
  · have e2 : decide ((6 : Int) < (zs.length : Int)) = true := decide_eq_true (by omega)
    have e2' : (6 : Int) < (zs.length : Int) := by omega
    go_wp2_with fail
    refine (uawake (HT.out _ HY1.out)).mono ?_
    rintro e U9 ⟨rfl, y9⟩
    go_wp2
    go_ret
    exact ⟨rfl, (HY1.out).trans y9⟩
  have e2 : decide ((6 : Int) < (zs.length : Int)) = false := decide_eq_false (by omega)
  have e2' : ¬ (6 : Int) < (zs.length : Int) := by omega
  by_cases q3 : 2 < nl
  · have e3 : decide ((2 : Int) < (nl : Int)) = true := decide_eq_true (by omega)
    have e3' : (2 : Int) < (nl : Int) := by omega
    go_wp2_with fail
    refine (uawake (HT.out _ HY1.out)).mono ?_
    rintro e U9 ⟨rfl, y9⟩
    go_wp2
    go_ret
    exact ⟨rfl, (HY1.out).trans y9⟩
  have e3 : decide ((2 : Int) < (nl : Int)) = false := decide_eq_false (by omega)
  have e3' : ¬ (2 : Int) < (nl : Int) := by omega
  by_cases q4 : 2 < dl
  · have e4 : decide ((2 : Int) < (dl : Int)) = true := decide_eq_true (by omega)
    have e4' : (2 : Int) < (dl : Int) := by omega
    go_wp2_with fail
    refine (uawake (HT.out _ HY1.out)).mono ?_
    rintro e U9 ⟨rfl, y9⟩
    go_wp2
    go_ret
    exact ⟨rfl, (HY1.out).trans y9⟩
  have e4 : decide ((2 : Int) < (dl : Int)) = false := decide_eq_false (by omega)
  have e4' : ¬ (2 : Int) < (dl : Int) := by omega
  have HX := Lib.hid (fun (w' : World) (h : Ext w w') => KFrac.any (z := ⟨ng, nl, nv, dl, dv⟩) (HSL.out _ h) (HDL.out _ h) (L := 2) (by show nl ≤ 2; omega) (by show dl ≤ 2; omega) (by omega))
  have hfbu : FB (frac ng nv dv) 3 := by
    have a := (HSL.out _ (Below.refl _ _)).len_le (L := 2) (by omega)
    have b := (HDL.out _ (Below.refl _ _)).len_le (L := 2) (by omega)
    exact frac_fb a b (by omega)
  dsimp only at HX
  obtain ⟨u, hu⟩ : ∃ u, u = frac ng nv dv := ⟨_, rfl⟩
  rw [← hu] at HX hfbu
  have HFU := Lib.hid hfbu
  obtain ⟨sg, hsg⟩ : ∃ sg, sg = sgnQ u := ⟨_, rfl⟩
  have HSG := Lib.hid (sign_e (HX.out _ HY1.out) hsg.symm)
  by_cases q5 : sg ≤ 0
  · have e5 : decide (sg ≤ 0) = true := decide_eq_true q5
    clear hsg hu
    go_wp2_with fail
    refine HSG.out.mono ?_
    rintro e U2 ⟨rfl, y2⟩
    go_wp2_with fail
    refine (uawake (HT.out _ (HY1.out.trans y2))).mono ?_
    rintro e U9 ⟨rfl, y9⟩
    go_wp2
    go_ret
    exact ⟨rfl, (HY1.out.trans y2).trans y9⟩
  have e5 : decide (sg ≤ 0) = false := decide_eq_false q5
  have hup : 0 < u := by rw [hsg] at q5; exact (sgnQ_pos u).1 (by omega)
  have HUP := Lib.hid hup
  clear hsg hu hfbu hup
  go_wp2_with fail
  refine HSG.out.mono ?_
  rintro e U2 ⟨rfl, y2⟩
  have HY2 := Lib.hid (HY1.out.trans y2)
  have HUB2 := Lib.hid (fun (w' : World) (h : Ext U2 w') => HUB.out w' (y2.trans h))
  have hl1 : 1 ≤ zs.length := by omega
  have hl6 : zs.length ≤ 6 := by omega
  clear y2 HSG e1 e2 e3 e4 e5 c00 c01 c02 HUB HB0 q1 q2 q3 q4 e1' e2' e3' e4'
  by_cases hw : Wts zs
  case neg =>
    have HC := Lib.hid (fun (w' : World) (h : Ext w w') => ucommon_no (HV.out w' h) hw hl6 ht0 ht1 (m := m) (by omega) (by omega))
    have HSC := Lib.hid (fun (w' : World) (h : Ext w w') => uscore_no (b := ng) (s := .slice A nl c) (t := .slice A' dl c') (tol := tol) (m := m) (HV.out w' h) hw (by omega))
    clear hw
    go_wp2_with fail
    refine (HC.out _ HY2.out).mono ?_
    rintro e U3 ⟨rfl, y3⟩
    obtain ⟨c00, c01, c02, _, _, _⟩ := HUB2.out _ y3
    go_wp2_with fail
    refine (HSC.out _ (HY2.out.trans y3)).mono ?_
    rintro e U4 ⟨rfl, y4⟩
    go_wp2
    go_ret
    exact ⟨rfl, (HY2.out.trans y3).trans y4⟩
  case pos =>
    obtain ⟨w0, ws, hzs⟩ : ∃ w0 ws, zs = w0 :: ws := by
      rcases zs with _ | ⟨a, l⟩
      · simp at hl1
      · exact ⟨a, l, rfl⟩
    have HC := Lib.hid (fun (w' : World) (h : Ext w w') => ucommon_ok (HV.out w' h) hzs hw hl6 ht0 ht1 (m := m) (by omega) (by omega))
    have HSC := Lib.hid (fun (w' : World) (h : Ext w w') => uscore_ok (HV.out w' h) hw (by omega) (HX.out w' h) HUP.out ht0 ht1 (m := m) (by omega) (by omega))
    have HFI := Lib.hid (fun (v : Int) (hm : v ∈ zs) (w' : World) (h : Ext w w') => ufits (tol := tol) (m := m) (HX.out w' h) HUP.out (hw v hm).1 (hw v hm).2 ht0 ht1 (by omega) (by omega))
    have HER := Lib.hid (fun (w' : World) (h : Ext w w') => uerror_ok (m := m) (HV.out w' h) hw hl1 (by omega) (HX.out w' h) HFU.out HUP.out (by omega) (by omega))
    have HEF := Lib.hid (err_fb (m := m) (by omega) HFU.out zs hw)
    have HIN := Lib.hid (show inS (comTo tol m w0 ws) u = zs.all (fun v => inS (spansL v tol m) u) from by rw [com_in, hzs])
    have HSA := Lib.hid (score_all tol m u zs)
    have HEA := Lib.hid (fun (h : 1 ≤ u) => err_all (tol := tol) (m := m) hw ht0 (by omega) h)
    have HWL := Lib.hid (show ws.length ≤ 5 from by rw [hzs] at hl6; simp at hl6; omega)
    have HSF := Lib.hid (show AllS (fun q => FB q 3) (comTo tol m w0 ws) from com_fb _ _ (fun v hv => show AllS (fun q => FB q 3) (spansL v tol m) from spansTo_fb (hw v (by rw [hzs]; exact List.mem_cons_of_mem _ hv)).1 (hw v (by rw [hzs]; exact List.mem_cons_of_mem _ hv)).2 ht0 ht1 (by omega) m (Nat.le_refl _)) (spansTo_fb (hw w0 (by rw [hzs]; exact List.mem_cons_self ..)).1 (hw w0 (by rw [hzs]; exact List.mem_cons_self ..)).2 ht0 ht1 (by omega) m (Nat.le_refl _)))
    have HSL5 := Lib.hid (com_len5 (tol := tol) (m := m) (by omega) w0 ws HWL.out)
    have HW := Lib.hid hw
    obtain ⟨ss, hss⟩ : ∃ ss, ss = comTo tol m w0 ws := ⟨_, rfl⟩
    rw [← hss] at HC HIN HSF HSL5
    obtain ⟨sc, hsc⟩ : ∃ sc, sc = scoreN tol m u zs := ⟨_, rfl⟩
    rw [← hsc] at HSC HSA
    obtain ⟨al, hal⟩ : ∃ al : Bool, al = zs.all (fun v => inS (spansL v tol m) u) := ⟨_, rfl⟩
    have HAL := Lib.hid hal
    rw [← hal] at HIN HSA HEA
    clear hzs hw hss hsc hal
    go_wp2_with fail
    refine (HC.out _ HY2.out).mono ?_
    rintro e U3 ⟨SA, sn, rfl, hsp, y3⟩
    have HSP := Lib.hid hsp
    have HX3 := Lib.hid (HY2.out.trans y3)
    have HUB3 := Lib.hid (fun (w' : World) (h : Ext U3 w') => HUB2.out w' (y3.trans h))
    obtain ⟨c00, c01, c02, _, _, _⟩ := HUB2.out _ y3
    clear hsp y3 HUB2
    go_wp2_with fail
    refine (HSC.out _ HX3.out).mono ?_
    rintro e U4 ⟨rfl, y4⟩
    have HY4 := Lib.hid y4
    clear y4 c00 c01 c02
    go_wp2
    go_loopw [13, 14] (fun rv kv wr => ∃ (k : Nat) (r : Bool), k ≤ ss.length ∧ rv = .bool r ∧ kv = .int .i64 k ∧ Hid (r = inS (ss.take k) u) ∧ Ext U3 wr) (fun _ kv _ => ss.length - (intOf kv).toNat)
    case atStart => exact ⟨0, false, Nat.zero_le _, rfl, rfl, Lib.hid (by rw [List.take_zero]; rfl), HY4.out⟩
    case round =>
      obtain ⟨k, r, hk, rfl, rfl, hR, hx⟩ := hrel
      by_cases hkn : k < ss.length
      · obtain ⟨x, hxa⟩ : ∃ x, ss[k]? = some x := ⟨_, List.getElem?_eq_getElem hkn⟩
        have hi1 : (0 : Int) ≤ (k : Int) := by omega
        have hi2 : (k : Int) < (ss.length : Int) := by omega
        have hsl5 : ss.length ≤ 50000 := HSL5.out
        have hwk : IntKind.i64.wrap (k : Int) = (k : Int) := wrap_in (by omega)
        have HXA := Lib.hid (inS_take_succ ss u hxa)
        have gD : Ext wr wr.drew := (Below.refl _ _).drew
        have HGD := Lib.hid (hx.trans gD)
        cases r with
        | true =>
          clear gD
          go_upto_region 13 with (fail)
          refine wp_region_G (fun w' => Ext wr w') [21] (by kernel_rfl) ?_
          have gS : Ext wr wr.drew := (Below.refl _ _).drew
          refine wpAnyG_take 0 (v := ?_) rfl (by kernel_rfl) (by kernel_rfl) (by kernel_rfl) (by kernel_rfl) (by rfl) (by kernel_rfl) (fun _ _ _ h => h) (by rfl) (fun w' hw' => ?_) gS ?_
          rotate_left
          focus (go_simp; (try with_reducible rfl); done)
          (try simp only [Act.put, List.getElem_toArray, List.getElem_cons_succ, List.getElem_cons_zero, List.setIfInBounds_toArray, List.set_cons_zero, List.set_cons_succ])
          refine wpAnyG_take 1 (v := ?_) rfl (by kernel_rfl) (by kernel_rfl) (by kernel_rfl) (by kernel_rfl) (by rfl) (by kernel_rfl) (fun _ _ _ h => h) (by rfl) (fun w' hw' => ?_) gS ?_
          rotate_left
          focus (go_simp; (try with_reducible rfl); done)
          (try simp only [Act.put, List.getElem_toArray, List.getElem_cons_succ, List.getElem_cons_zero, List.setIfInBounds_toArray, List.set_cons_zero, List.set_cons_succ])
          refine wpAnyG_skip 2 rfl (by kernel_rfl) (by kernel_rfl) (by kernel_rfl) (by kernel_rfl) (by rfl) (by kernel_rfl) (fun _ _ _ h => h) (by rfl) gS ?_
          (try simp only [Act.put, List.getElem_toArray, List.getElem_cons_succ, List.getElem_cons_zero, List.setIfInBounds_toArray, List.set_cons_zero, List.set_cons_succ])
          refine wpAnyG_skip 3 rfl (by kernel_rfl) (by kernel_rfl) (by kernel_rfl) (by kernel_rfl) (by rfl) (by kernel_rfl) (fun _ _ _ h => h) (by rfl) gS ?_
          (try simp only [Act.put, List.getElem_toArray, List.getElem_cons_succ, List.getElem_cons_zero, List.setIfInBounds_toArray, List.set_cons_zero, List.set_cons_succ])
          refine wpAnyG_skip 4 rfl (by kernel_rfl) (by kernel_rfl) (by kernel_rfl) (by kernel_rfl) (by rfl) (by kernel_rfl) (fun _ _ _ h => h) (by rfl) gS ?_
          (try simp only [Act.put, List.getElem_toArray, List.getElem_cons_succ, List.getElem_cons_zero, List.setIfInBounds_toArray, List.set_cons_zero, List.set_cons_succ])
          refine wpAnyG_skip 5 rfl (by kernel_rfl) (by kernel_rfl) (by kernel_rfl) (by kernel_rfl) (by rfl) (by kernel_rfl) (fun _ _ _ h => h) (by rfl) gS ?_
          (try simp only [Act.put, List.getElem_toArray, List.getElem_cons_succ, List.getElem_cons_zero, List.setIfInBounds_toArray, List.set_cons_zero, List.set_cons_succ])
          refine wpAnyG_skip 6 rfl (by kernel_rfl) (by kernel_rfl) (by kernel_rfl) (by kernel_rfl) (by rfl) (by kernel_rfl) (fun _ _ _ h => h) (by rfl) gS ?_
          (try simp only [Act.put, List.getElem_toArray, List.getElem_cons_succ, List.getElem_cons_zero, List.setIfInBounds_toArray, List.set_cons_zero, List.set_cons_succ])
          refine wpAnyG_skip 7 rfl (by kernel_rfl) (by kernel_rfl) (by kernel_rfl) (by kernel_rfl) (by rfl) (by kernel_rfl) (fun _ _ _ h => h) (by rfl) gS ?_
          (try simp only [Act.put, List.getElem_toArray, List.getElem_cons_succ, List.getElem_cons_zero, List.setIfInBounds_toArray, List.set_cons_zero, List.set_cons_succ])
          refine wpAnyG_skip 8 rfl (by kernel_rfl) (by kernel_rfl) (by kernel_rfl) (by kernel_rfl) (by rfl) (by kernel_rfl) (fun _ _ _ h => h) (by rfl) gS ?_
          (try simp only [Act.put, List.getElem_toArray, List.getElem_cons_succ, List.getElem_cons_zero, List.setIfInBounds_toArray, List.set_cons_zero, List.set_cons_succ])
          refine wpAnyG_skip 9 rfl (by kernel_rfl) (by kernel_rfl) (by kernel_rfl) (by kernel_rfl) (by rfl) (by kernel_rfl) (fun _ _ _ h => h) (by rfl) gS ?_
          (try simp only [Act.put, List.getElem_toArray, List.getElem_cons_succ, List.getElem_cons_zero, List.setIfInBounds_toArray, List.set_cons_zero, List.set_cons_succ])
          refine wpAnyG_skip 10 rfl (by kernel_rfl) (by kernel_rfl) (by kernel_rfl) (by kernel_rfl) (by rfl) (by kernel_rfl) (fun _ _ _ h => h) (by rfl) gS ?_
          (try simp only [Act.put, List.getElem_toArray, List.getElem_cons_succ, List.getElem_cons_zero, List.setIfInBounds_toArray, List.set_cons_zero, List.set_cons_succ])
          refine wpAnyG_skip 11 rfl (by kernel_rfl) (by kernel_rfl) (by kernel_rfl) (by kernel_rfl) (by rfl) (by kernel_rfl) (fun _ _ _ h => h) (by rfl) gS ?_
          (try simp only [Act.put, List.getElem_toArray, List.getElem_cons_succ, List.getElem_cons_zero, List.setIfInBounds_toArray, List.set_cons_zero, List.set_cons_succ])
          refine wpAnyG_skip 12 rfl (by kernel_rfl) (by kernel_rfl) (by kernel_rfl) (by kernel_rfl) (by rfl) (by kernel_rfl) (fun _ _ _ h => h) (by rfl) gS ?_
          (try simp only [Act.put, List.getElem_toArray, List.getElem_cons_succ, List.getElem_cons_zero, List.setIfInBounds_toArray, List.set_cons_zero, List.set_cons_succ])
          refine wpAnyG_skip 13 rfl (by kernel_rfl) (by kernel_rfl) (by kernel_rfl) (by kernel_rfl) (by rfl) (by kernel_rfl) (fun _ _ _ h => h) (by rfl) gS ?_
          (try simp only [Act.put, List.getElem_toArray, List.getElem_cons_succ, List.getElem_cons_zero, List.setIfInBounds_toArray, List.set_cons_zero, List.set_cons_succ])
          refine wpAnyG_skip 14 rfl (by kernel_rfl) (by kernel_rfl) (by kernel_rfl) (by kernel_rfl) (by rfl) (by kernel_rfl) (fun _ _ _ h => h) (by rfl) gS ?_
          (try simp only [Act.put, List.getElem_toArray, List.getElem_cons_succ, List.getElem_cons_zero, List.setIfInBounds_toArray, List.set_cons_zero, List.set_cons_succ])
          refine wpAnyG_skip 15 rfl (by kernel_rfl) (by kernel_rfl) (by kernel_rfl) (by kernel_rfl) (by rfl) (by kernel_rfl) (fun _ _ _ h => h) (by rfl) gS ?_
          (try simp only [Act.put, List.getElem_toArray, List.getElem_cons_succ, List.getElem_cons_zero, List.setIfInBounds_toArray, List.set_cons_zero, List.set_cons_succ])
          refine wpAnyG_skip 16 rfl (by kernel_rfl) (by kernel_rfl) (by kernel_rfl) (by kernel_rfl) (by rfl) (by kernel_rfl) (fun _ _ _ h => h) (by rfl) gS ?_
          (try simp only [Act.put, List.getElem_toArray, List.getElem_cons_succ, List.getElem_cons_zero, List.setIfInBounds_toArray, List.set_cons_zero, List.set_cons_succ])
          refine wpAnyG_skip 17 rfl (by kernel_rfl) (by kernel_rfl) (by kernel_rfl) (by kernel_rfl) (by rfl) (by kernel_rfl) (fun _ _ _ h => h) (by rfl) gS ?_
          (try simp only [Act.put, List.getElem_toArray, List.getElem_cons_succ, List.getElem_cons_zero, List.setIfInBounds_toArray, List.set_cons_zero, List.set_cons_succ])
          refine wpAnyG_skip 18 rfl (by kernel_rfl) (by kernel_rfl) (by kernel_rfl) (by kernel_rfl) (by rfl) (by kernel_rfl) (fun _ _ _ h => h) (by rfl) gS ?_
          (try simp only [Act.put, List.getElem_toArray, List.getElem_cons_succ, List.getElem_cons_zero, List.setIfInBounds_toArray, List.set_cons_zero, List.set_cons_succ])
          refine wpAnyG_skip 19 rfl (by kernel_rfl) (by kernel_rfl) (by kernel_rfl) (by kernel_rfl) (by rfl) (by kernel_rfl) (fun _ _ _ h => h) (by rfl) gS ?_
          (try simp only [Act.put, List.getElem_toArray, List.getElem_cons_succ, List.getElem_cons_zero, List.setIfInBounds_toArray, List.set_cons_zero, List.set_cons_succ])
          refine wpAnyG_take 20 (v := ?_) rfl (by kernel_rfl) (by kernel_rfl) (by kernel_rfl) (by kernel_rfl) (by rfl) (by kernel_rfl) (fun _ _ _ h => h) (by rfl) (fun w' hw' => ?_) gS ?_
          rotate_left
          focus (go_simp; (try with_reducible rfl); done)
          (try simp only [Act.put, List.getElem_toArray, List.getElem_cons_succ, List.getElem_cons_zero, List.setIfInBounds_toArray, List.set_cons_zero, List.set_cons_succ])
          refine wpAnyG_one 21 (by kernel_rfl) rfl (by rfl) (fun K hK => ?_)
          (try simp only [List.getElem_toArray, List.getElem_cons_succ, List.getElem_cons_zero])
          go_simp
          refine hK.out _ _ (fun h => absurd h (by decide)) ?_
          clear hK K
          (try simp only [Act.put, List.getElem_toArray, List.getElem_cons_succ, List.getElem_cons_zero, List.setIfInBounds_toArray, List.set_cons_zero, List.set_cons_succ])
          refine wpAnyG_done (by kernel_rfl) ?_ _
          go_wp2
          go_roundw
          case rel => exact ⟨k + 1, true, by omega, rfl, by go_num, Lib.hid (by rw [HXA.out, ← hR.out]; rfl), HGD.out⟩
          case measure => simp [intOf]; omega
        | false =>
          obtain ⟨bx, ox, m1, A1, k1, c1, A2, k2, c2, m2, A3, k3, c3, A4, k4, c4, e, hbx, hsx, fx1, fx2⟩ := HSP.out.at_ hxa
          subst e
          have hg := HSF.out x (List.mem_of_getElem? hxa)
          obtain ⟨zz1, hz1⟩ : ∃ z, z = cmpQ x.1 u := ⟨_, rfl⟩
          obtain ⟨zz2, hz2⟩ : ∃ z, z = cmpQ u x.2 := ⟨_, rfl⟩
          have hcc1 : zz1 ≤ 0 ↔ x.1 ≤ u := by rw [hz1]; exact cmp_le
          have hcc2 : zz2 ≤ 0 ↔ u ≤ x.2 := by rw [hz2]; exact cmp_le
          have HC1 := Lib.hid (fun (w' : World) (h : Ext wr w') => cmp_e (L := 3) (M := 3) (FracV.any (fx1.below (hx.trans h)) hg.1 (by omega)) (HX.out _ (HX3.out.trans (hx.trans h))) (by omega) hz1.symm)
          have HC2 := Lib.hid (fun (w' : World) (h : Ext wr w') => cmp_e (L := 3) (M := 3) (HX.out _ (HX3.out.trans (hx.trans h))) (FracV.any (fx2.below (hx.trans h)) hg.2 (by omega)) (by omega) hz2.symm)
          have HS := Lib.hid (fun (w' : World) (h : Ext wr w') => (⟨⟨(hsx.below (hx.trans h)).1, (hsx.below (hx.trans h)).2.1, (hsx.below (hx.trans h)).2.2.1⟩, ⟨(hsx.below (hx.trans h)).2.2.2.1, (hsx.below (hx.trans h)).2.2.2.2.1, (hsx.below (hx.trans h)).2.2.2.2.2⟩, (HUB3.out _ (hx.trans h)).1, (HUB3.out _ (hx.trans h)).2.1, (HUB3.out _ (hx.trans h)).2.2.1⟩ : (w'.cell? ⟨bx, ox + k * 6, none⟩ = some (.bool m1) ∧ w'.cell? ⟨bx, ox + k * 6 + 1, none⟩ = some (.slice A1 k1 c1) ∧ w'.cell? ⟨bx, ox + k * 6 + 2, none⟩ = some (.slice A2 k2 c2)) ∧ (w'.cell? ⟨bx, ox + k * 6 + 3, none⟩ = some (.bool m2) ∧ w'.cell? ⟨bx, ox + k * 6 + 4, none⟩ = some (.slice A3 k3 c3) ∧ w'.cell? ⟨bx, ox + k * 6 + 5, none⟩ = some (.slice A4 k4 c4)) ∧ w'.cell? ⟨w.heap.size, 0, none⟩ = some (.bool ng) ∧ w'.cell? ⟨w.heap.size, 1, none⟩ = some (.slice A nl c) ∧ w'.cell? ⟨w.heap.size, 2, none⟩ = some (.slice A' dl c')))
          have HHX := Lib.hid hx
          clear hz1 hz2 hsx fx1 fx2 hg hxa hx gD HGD
          by_cases a1 : x.1 ≤ u
          · have d1 : decide (zz1 ≤ 0) = true := decide_eq_true (hcc1.2 a1)
            have d1' : zz1 ≤ 0 := hcc1.2 a1
            by_cases a2 : u ≤ x.2
            · have d2 : decide (zz2 ≤ 0) = true := decide_eq_true (hcc2.2 a2)
              have d2' : zz2 ≤ 0 := hcc2.2 a2
              have HXB := Lib.hid (show (decide (x.1 ≤ u) && decide (u ≤ x.2)) = true from by rw [decide_eq_true a1, decide_eq_true a2]; rfl)
              clear hcc1 hcc2 a1 a2
              go_upto_region 13 with (fail)
              refine wp_region_G (fun w' => Ext wr w') [21] (by kernel_rfl) ?_
              have gS : Ext wr wr.drew := (Below.refl _ _).drew
              refine wpAnyG_take 0 (v := ?_) rfl (by kernel_rfl) (by kernel_rfl) (by kernel_rfl) (by kernel_rfl) (by rfl) (by kernel_rfl) (fun _ _ _ h => h) (by rfl) (fun w' hw' => ?_) gS ?_
              rotate_left
              focus (go_simp; (try with_reducible rfl); done)
              (try simp only [Act.put, List.getElem_toArray, List.getElem_cons_succ, List.getElem_cons_zero, List.setIfInBounds_toArray, List.set_cons_zero, List.set_cons_succ])
              refine wpAnyG_take 1 (v := ?_) rfl (by kernel_rfl) (by kernel_rfl) (by kernel_rfl) (by kernel_rfl) (by rfl) (by kernel_rfl) (fun _ _ _ h => h) (by rfl) (fun w' hw' => ?_) gS ?_
              rotate_left
              focus (go_simp; (try with_reducible rfl); done)
              (try simp only [Act.put, List.getElem_toArray, List.getElem_cons_succ, List.getElem_cons_zero, List.setIfInBounds_toArray, List.set_cons_zero, List.set_cons_succ])
              refine wpAnyG_take 2 (v := ?_) rfl (by kernel_rfl) (by kernel_rfl) (by kernel_rfl) (by kernel_rfl) (by rfl) (by kernel_rfl) (fun _ _ _ h => h) (by rfl) (fun w' hw' => ?_) gS ?_
              rotate_left
              focus (go_simp; (try with_reducible rfl); done)
              (try simp only [Act.put, List.getElem_toArray, List.getElem_cons_succ, List.getElem_cons_zero, List.setIfInBounds_toArray, List.set_cons_zero, List.set_cons_succ])
              refine wpAnyG_take 3 (v := ?_) rfl (by kernel_rfl) (by kernel_rfl) (by kernel_rfl) (by kernel_rfl) (by rfl) (by kernel_rfl) (fun _ _ _ h => h) (by rfl) (fun w' hw' => ?_) gS ?_
              rotate_left
              focus (go_simp; (try with_reducible rfl); done)
              (try simp only [Act.put, List.getElem_toArray, List.getElem_cons_succ, List.getElem_cons_zero, List.setIfInBounds_toArray, List.set_cons_zero, List.set_cons_succ])
              refine wpAnyG_take 4 (v := ?_) rfl (by kernel_rfl) (by kernel_rfl) (by kernel_rfl) (by kernel_rfl) (by rfl) (by kernel_rfl) (fun _ _ _ h => h) (by rfl) (fun w' hw' => ?_) gS ?_
              rotate_left
              focus (go_simp; (try with_reducible rfl); done)
              (try simp only [Act.put, List.getElem_toArray, List.getElem_cons_succ, List.getElem_cons_zero, List.setIfInBounds_toArray, List.set_cons_zero, List.set_cons_succ])
              refine wpAnyG_take 5 (v := ?_) rfl (by kernel_rfl) (by kernel_rfl) (by kernel_rfl) (by kernel_rfl) (by rfl) (by kernel_rfl) (fun _ _ _ h => h) (by rfl) (fun w' hw' => ?_) gS ?_
              rotate_left
              focus (go_simp; (try with_reducible rfl); done)
              (try simp only [Act.put, List.getElem_toArray, List.getElem_cons_succ, List.getElem_cons_zero, List.setIfInBounds_toArray, List.set_cons_zero, List.set_cons_succ])
              refine wpAnyG_take 6 (v := ?_) rfl (by kernel_rfl) (by kernel_rfl) (by kernel_rfl) (by kernel_rfl) (by rfl) (by kernel_rfl) (fun _ _ _ h => h) (by rfl) (fun w' hw' => ?_) gS ?_
              rotate_left
              focus (have hh := HS.out _ hw'; go_split_ands; go_simp; (try with_reducible rfl); done)
              (try simp only [Act.put, List.getElem_toArray, List.getElem_cons_succ, List.getElem_cons_zero, List.setIfInBounds_toArray, List.set_cons_zero, List.set_cons_succ])
              refine wpAnyG_take 7 (v := ?_) rfl (by kernel_rfl) (by kernel_rfl) (by kernel_rfl) (by kernel_rfl) (by rfl) (by kernel_rfl) (fun _ _ _ h => h) (by rfl) (fun w' hw' => ?_) gS ?_
              rotate_left
              focus (have hh := HS.out _ hw'; go_split_ands; go_simp; (try with_reducible rfl); done)
              (try simp only [Act.put, List.getElem_toArray, List.getElem_cons_succ, List.getElem_cons_zero, List.setIfInBounds_toArray, List.set_cons_zero, List.set_cons_succ])
              refine wpAnyG_one 8 (by kernel_rfl) rfl (by rfl) (fun K hK => ?_)
              go_simp
              go_at_call 9
              refine (HC1.out _ gS).mono ?_
              rintro _ s1 ⟨rfl, z1⟩
              have gS : Ext wr s1 := Ext.trans gS z1
              (try go_wp2_with fail)
              refine hK.out _ _ (fun _ => gS) ?_
              clear hK K
              (try simp only [Act.put, List.getElem_toArray, List.getElem_cons_succ, List.getElem_cons_zero, List.setIfInBounds_toArray, List.set_cons_zero, List.set_cons_succ])
              refine wpAnyG_take 9 (v := ?_) rfl (by kernel_rfl) (by kernel_rfl) (by kernel_rfl) (by kernel_rfl) (by rfl) (by kernel_rfl) (fun _ _ _ h => h) (by rfl) (fun w' hw' => ?_) gS ?_
              rotate_left
              focus (go_simp; (try with_reducible rfl); done)
              (try simp only [Act.put, List.getElem_toArray, List.getElem_cons_succ, List.getElem_cons_zero, List.setIfInBounds_toArray, List.set_cons_zero, List.set_cons_succ])
              refine wpAnyG_take 10 (v := ?_) rfl (by kernel_rfl) (by kernel_rfl) (by kernel_rfl) (by kernel_rfl) (by rfl) (by kernel_rfl) (fun _ _ _ h => h) (by rfl) (fun w' hw' => ?_) gS ?_
              rotate_left
              focus (go_simp; (try with_reducible rfl); done)
              (try simp only [Act.put, List.getElem_toArray, List.getElem_cons_succ, List.getElem_cons_zero, List.setIfInBounds_toArray, List.set_cons_zero, List.set_cons_succ])
              refine wpAnyG_take 11 (v := ?_) rfl (by kernel_rfl) (by kernel_rfl) (by kernel_rfl) (by kernel_rfl) (by rfl) (by kernel_rfl) (fun _ _ _ h => h) (by rfl) (fun w' hw' => ?_) gS ?_
              rotate_left
              focus (have hh := HS.out _ hw'; go_split_ands; go_simp; (try with_reducible rfl); done)
              (try simp only [Act.put, List.getElem_toArray, List.getElem_cons_succ, List.getElem_cons_zero, List.setIfInBounds_toArray, List.set_cons_zero, List.set_cons_succ])
              refine wpAnyG_take 12 (v := ?_) rfl (by kernel_rfl) (by kernel_rfl) (by kernel_rfl) (by kernel_rfl) (by rfl) (by kernel_rfl) (fun _ _ _ h => h) (by rfl) (fun w' hw' => ?_) gS ?_
              rotate_left
              focus (go_simp; (try with_reducible rfl); done)
              (try simp only [Act.put, List.getElem_toArray, List.getElem_cons_succ, List.getElem_cons_zero, List.setIfInBounds_toArray, List.set_cons_zero, List.set_cons_succ])
              refine wpAnyG_take 13 (v := ?_) rfl (by kernel_rfl) (by kernel_rfl) (by kernel_rfl) (by kernel_rfl) (by rfl) (by kernel_rfl) (fun _ _ _ h => h) (by rfl) (fun w' hw' => ?_) gS ?_
              rotate_left
              focus (go_simp; (try with_reducible rfl); done)
              (try simp only [Act.put, List.getElem_toArray, List.getElem_cons_succ, List.getElem_cons_zero, List.setIfInBounds_toArray, List.set_cons_zero, List.set_cons_succ])
              refine wpAnyG_take 14 (v := ?_) rfl (by kernel_rfl) (by kernel_rfl) (by kernel_rfl) (by kernel_rfl) (by rfl) (by kernel_rfl) (fun _ _ _ h => h) (by rfl) (fun w' hw' => ?_) gS ?_
              rotate_left
              focus (go_simp; (try with_reducible rfl); done)
              (try simp only [Act.put, List.getElem_toArray, List.getElem_cons_succ, List.getElem_cons_zero, List.setIfInBounds_toArray, List.set_cons_zero, List.set_cons_succ])
              refine wpAnyG_take 15 (v := ?_) rfl (by kernel_rfl) (by kernel_rfl) (by kernel_rfl) (by kernel_rfl) (by rfl) (by kernel_rfl) (fun _ _ _ h => h) (by rfl) (fun w' hw' => ?_) gS ?_
              rotate_left
              focus (go_simp; (try with_reducible rfl); done)
              (try simp only [Act.put, List.getElem_toArray, List.getElem_cons_succ, List.getElem_cons_zero, List.setIfInBounds_toArray, List.set_cons_zero, List.set_cons_succ])
              refine wpAnyG_take 16 (v := ?_) rfl (by kernel_rfl) (by kernel_rfl) (by kernel_rfl) (by kernel_rfl) (by rfl) (by kernel_rfl) (fun _ _ _ h => h) (by rfl) (fun w' hw' => ?_) gS ?_
              rotate_left
              focus (have hh := HS.out _ hw'; go_split_ands; go_simp; (try with_reducible rfl); done)
              (try simp only [Act.put, List.getElem_toArray, List.getElem_cons_succ, List.getElem_cons_zero, List.setIfInBounds_toArray, List.set_cons_zero, List.set_cons_succ])
              refine wpAnyG_one 17 (by kernel_rfl) rfl (by rfl) (fun K hK => ?_)
              (try simp only [List.getElem_toArray, List.getElem_cons_succ, List.getElem_cons_zero])
              go_simp
              go_at_call 9
              refine (HC2.out _ gS).mono ?_
              rintro _ s2 ⟨rfl, z2⟩
              have gS : Ext wr s2 := Ext.trans gS z2
              (try go_wp2_with fail)
              refine hK.out _ _ (fun _ => gS) ?_
              clear hK K
              (try simp only [Act.put, List.getElem_toArray, List.getElem_cons_succ, List.getElem_cons_zero, List.setIfInBounds_toArray, List.set_cons_zero, List.set_cons_succ])
              refine wpAnyG_take 18 (v := ?_) rfl (by kernel_rfl) (by kernel_rfl) (by kernel_rfl) (by kernel_rfl) (by rfl) (by kernel_rfl) (fun _ _ _ h => h) (by rfl) (fun w' hw' => ?_) gS ?_
              rotate_left
              focus (go_simp; (try with_reducible rfl); done)
              (try simp only [Act.put, List.getElem_toArray, List.getElem_cons_succ, List.getElem_cons_zero, List.setIfInBounds_toArray, List.set_cons_zero, List.set_cons_succ])
              refine wpAnyG_take 19 (v := ?_) rfl (by kernel_rfl) (by kernel_rfl) (by kernel_rfl) (by kernel_rfl) (by rfl) (by kernel_rfl) (fun _ _ _ h => h) (by rfl) (fun w' hw' => ?_) gS ?_
              rotate_left
              focus (go_simp; (try with_reducible rfl); done)
              (try simp only [Act.put, List.getElem_toArray, List.getElem_cons_succ, List.getElem_cons_zero, List.setIfInBounds_toArray, List.set_cons_zero, List.set_cons_succ])
              refine wpAnyG_take 20 (v := ?_) rfl (by kernel_rfl) (by kernel_rfl) (by kernel_rfl) (by kernel_rfl) (by rfl) (by kernel_rfl) (fun _ _ _ h => h) (by rfl) (fun w' hw' => ?_) gS ?_
              rotate_left
              focus (go_simp; (try with_reducible rfl); done)
              (try simp only [Act.put, List.getElem_toArray, List.getElem_cons_succ, List.getElem_cons_zero, List.setIfInBounds_toArray, List.set_cons_zero, List.set_cons_succ])
              refine wpAnyG_one 21 (by kernel_rfl) rfl (by rfl) (fun K hK => ?_)
              (try simp only [List.getElem_toArray, List.getElem_cons_succ, List.getElem_cons_zero])
              go_simp
              refine hK.out _ _ (fun h => absurd h (by decide)) ?_
              clear hK K
              (try simp only [Act.put, List.getElem_toArray, List.getElem_cons_succ, List.getElem_cons_zero, List.setIfInBounds_toArray, List.set_cons_zero, List.set_cons_succ])
              refine wpAnyG_done (by kernel_rfl) ?_ _
              go_wp2
              go_roundw
              case rel => exact ⟨k + 1, true, by omega, rfl, by go_num, Lib.hid (by rw [HXA.out, HXB.out, Bool.or_true]), HHX.out.trans gS⟩
              case measure => simp [intOf]; omega
            · have d2 : decide (zz2 ≤ 0) = false := decide_eq_false (fun h => a2 (hcc2.1 h))
              have d2' : ¬ zz2 ≤ 0 := of_decide_eq_false d2
              have HXB := Lib.hid (show (decide (x.1 ≤ u) && decide (u ≤ x.2)) = false from by rw [decide_eq_false a2, Bool.and_false])
              clear hcc1 hcc2 a1 a2
              go_upto_region 13 with (fail)
              refine wp_region_G (fun w' => Ext wr w') [21] (by kernel_rfl) ?_
              have gS : Ext wr wr.drew := (Below.refl _ _).drew
              refine wpAnyG_take 0 (v := ?_) rfl (by kernel_rfl) (by kernel_rfl) (by kernel_rfl) (by kernel_rfl) (by rfl) (by kernel_rfl) (fun _ _ _ h => h) (by rfl) (fun w' hw' => ?_) gS ?_
              rotate_left
              focus (go_simp; (try with_reducible rfl); done)
              (try simp only [Act.put, List.getElem_toArray, List.getElem_cons_succ, List.getElem_cons_zero, List.setIfInBounds_toArray, List.set_cons_zero, List.set_cons_succ])
              refine wpAnyG_take 1 (v := ?_) rfl (by kernel_rfl) (by kernel_rfl) (by kernel_rfl) (by kernel_rfl) (by rfl) (by kernel_rfl) (fun _ _ _ h => h) (by rfl) (fun w' hw' => ?_) gS ?_
              rotate_left
              focus (go_simp; (try with_reducible rfl); done)
              (try simp only [Act.put, List.getElem_toArray, List.getElem_cons_succ, List.getElem_cons_zero, List.setIfInBounds_toArray, List.set_cons_zero, List.set_cons_succ])
              refine wpAnyG_take 2 (v := ?_) rfl (by kernel_rfl) (by kernel_rfl) (by kernel_rfl) (by kernel_rfl) (by rfl) (by kernel_rfl) (fun _ _ _ h => h) (by rfl) (fun w' hw' => ?_) gS ?_
              rotate_left
              focus (go_simp; (try with_reducible rfl); done)
              (try simp only [Act.put, List.getElem_toArray, List.getElem_cons_succ, List.getElem_cons_zero, List.setIfInBounds_toArray, List.set_cons_zero, List.set_cons_succ])
              refine wpAnyG_take 3 (v := ?_) rfl (by kernel_rfl) (by kernel_rfl) (by kernel_rfl) (by kernel_rfl) (by rfl) (by kernel_rfl) (fun _ _ _ h => h) (by rfl) (fun w' hw' => ?_) gS ?_
              rotate_left
              focus (go_simp; (try with_reducible rfl); done)
              (try simp only [Act.put, List.getElem_toArray, List.getElem_cons_succ, List.getElem_cons_zero, List.setIfInBounds_toArray, List.set_cons_zero, List.set_cons_succ])
              refine wpAnyG_take 4 (v := ?_) rfl (by kernel_rfl) (by kernel_rfl) (by kernel_rfl) (by kernel_rfl) (by rfl) (by kernel_rfl) (fun _ _ _ h => h) (by rfl) (fun w' hw' => ?_) gS ?_
              rotate_left
              focus (go_simp; (try with_reducible rfl); done)
              (try simp only [Act.put, List.getElem_toArray, List.getElem_cons_succ, List.getElem_cons_zero, List.setIfInBounds_toArray, List.set_cons_zero, List.set_cons_succ])
              refine wpAnyG_take 5 (v := ?_) rfl (by kernel_rfl) (by kernel_rfl) (by kernel_rfl) (by kernel_rfl) (by rfl) (by kernel_rfl) (fun _ _ _ h => h) (by rfl) (fun w' hw' => ?_) gS ?_
              rotate_left
              focus (go_simp; (try with_reducible rfl); done)
              (try simp only [Act.put, List.getElem_toArray, List.getElem_cons_succ, List.getElem_cons_zero, List.setIfInBounds_toArray, List.set_cons_zero, List.set_cons_succ])
              refine wpAnyG_take 6 (v := ?_) rfl (by kernel_rfl) (by kernel_rfl) (by kernel_rfl) (by kernel_rfl) (by rfl) (by kernel_rfl) (fun _ _ _ h => h) (by rfl) (fun w' hw' => ?_) gS ?_
              rotate_left
              focus (have hh := HS.out _ hw'; go_split_ands; go_simp; (try with_reducible rfl); done)
              (try simp only [Act.put, List.getElem_toArray, List.getElem_cons_succ, List.getElem_cons_zero, List.setIfInBounds_toArray, List.set_cons_zero, List.set_cons_succ])
              refine wpAnyG_take 7 (v := ?_) rfl (by kernel_rfl) (by kernel_rfl) (by kernel_rfl) (by kernel_rfl) (by rfl) (by kernel_rfl) (fun _ _ _ h => h) (by rfl) (fun w' hw' => ?_) gS ?_
              rotate_left
              focus (have hh := HS.out _ hw'; go_split_ands; go_simp; (try with_reducible rfl); done)
              (try simp only [Act.put, List.getElem_toArray, List.getElem_cons_succ, List.getElem_cons_zero, List.setIfInBounds_toArray, List.set_cons_zero, List.set_cons_succ])
              refine wpAnyG_one 8 (by kernel_rfl) rfl (by rfl) (fun K hK => ?_)
              go_simp
              go_at_call 9
              refine (HC1.out _ gS).mono ?_
              rintro _ s1 ⟨rfl, z1⟩
              have gS : Ext wr s1 := Ext.trans gS z1
              (try go_wp2_with fail)
              refine hK.out _ _ (fun _ => gS) ?_
              clear hK K
              (try simp only [Act.put, List.getElem_toArray, List.getElem_cons_succ, List.getElem_cons_zero, List.setIfInBounds_toArray, List.set_cons_zero, List.set_cons_succ])
              refine wpAnyG_take 9 (v := ?_) rfl (by kernel_rfl) (by kernel_rfl) (by kernel_rfl) (by kernel_rfl) (by rfl) (by kernel_rfl) (fun _ _ _ h => h) (by rfl) (fun w' hw' => ?_) gS ?_
              rotate_left
              focus (go_simp; (try with_reducible rfl); done)
              (try simp only [Act.put, List.getElem_toArray, List.getElem_cons_succ, List.getElem_cons_zero, List.setIfInBounds_toArray, List.set_cons_zero, List.set_cons_succ])
              refine wpAnyG_take 10 (v := ?_) rfl (by kernel_rfl) (by kernel_rfl) (by kernel_rfl) (by kernel_rfl) (by rfl) (by kernel_rfl) (fun _ _ _ h => h) (by rfl) (fun w' hw' => ?_) gS ?_
              rotate_left
              focus (go_simp; (try with_reducible rfl); done)
              (try simp only [Act.put, List.getElem_toArray, List.getElem_cons_succ, List.getElem_cons_zero, List.setIfInBounds_toArray, List.set_cons_zero, List.set_cons_succ])
              refine wpAnyG_take 11 (v := ?_) rfl (by kernel_rfl) (by kernel_rfl) (by kernel_rfl) (by kernel_rfl) (by rfl) (by kernel_rfl) (fun _ _ _ h => h) (by rfl) (fun w' hw' => ?_) gS ?_
              rotate_left
              focus (have hh := HS.out _ hw'; go_split_ands; go_simp; (try with_reducible rfl); done)
              (try simp only [Act.put, List.getElem_toArray, List.getElem_cons_succ, List.getElem_cons_zero, List.setIfInBounds_toArray, List.set_cons_zero, List.set_cons_succ])
              refine wpAnyG_take 12 (v := ?_) rfl (by kernel_rfl) (by kernel_rfl) (by kernel_rfl) (by kernel_rfl) (by rfl) (by kernel_rfl) (fun _ _ _ h => h) (by rfl) (fun w' hw' => ?_) gS ?_
              rotate_left
              focus (go_simp; (try with_reducible rfl); done)
              (try simp only [Act.put, List.getElem_toArray, List.getElem_cons_succ, List.getElem_cons_zero, List.setIfInBounds_toArray, List.set_cons_zero, List.set_cons_succ])
              refine wpAnyG_take 13 (v := ?_) rfl (by kernel_rfl) (by kernel_rfl) (by kernel_rfl) (by kernel_rfl) (by rfl) (by kernel_rfl) (fun _ _ _ h => h) (by rfl) (fun w' hw' => ?_) gS ?_
              rotate_left
              focus (go_simp; (try with_reducible rfl); done)
              (try simp only [Act.put, List.getElem_toArray, List.getElem_cons_succ, List.getElem_cons_zero, List.setIfInBounds_toArray, List.set_cons_zero, List.set_cons_succ])
              refine wpAnyG_take 14 (v := ?_) rfl (by kernel_rfl) (by kernel_rfl) (by kernel_rfl) (by kernel_rfl) (by rfl) (by kernel_rfl) (fun _ _ _ h => h) (by rfl) (fun w' hw' => ?_) gS ?_
              rotate_left
              focus (go_simp; (try with_reducible rfl); done)
              (try simp only [Act.put, List.getElem_toArray, List.getElem_cons_succ, List.getElem_cons_zero, List.setIfInBounds_toArray, List.set_cons_zero, List.set_cons_succ])
              refine wpAnyG_take 15 (v := ?_) rfl (by kernel_rfl) (by kernel_rfl) (by kernel_rfl) (by kernel_rfl) (by rfl) (by kernel_rfl) (fun _ _ _ h => h) (by rfl) (fun w' hw' => ?_) gS ?_
              rotate_left
              focus (go_simp; (try with_reducible rfl); done)
              (try simp only [Act.put, List.getElem_toArray, List.getElem_cons_succ, List.getElem_cons_zero, List.setIfInBounds_toArray, List.set_cons_zero, List.set_cons_succ])
              refine wpAnyG_take 16 (v := ?_) rfl (by kernel_rfl) (by kernel_rfl) (by kernel_rfl) (by kernel_rfl) (by rfl) (by kernel_rfl) (fun _ _ _ h => h) (by rfl) (fun w' hw' => ?_) gS ?_
              rotate_left
              focus (have hh := HS.out _ hw'; go_split_ands; go_simp; (try with_reducible rfl); done)
              (try simp only [Act.put, List.getElem_toArray, List.getElem_cons_succ, List.getElem_cons_zero, List.setIfInBounds_toArray, List.set_cons_zero, List.set_cons_succ])
              refine wpAnyG_one 17 (by kernel_rfl) rfl (by rfl) (fun K hK => ?_)
              (try simp only [List.getElem_toArray, List.getElem_cons_succ, List.getElem_cons_zero])
              go_simp
              go_at_call 9
              refine (HC2.out _ gS).mono ?_
              rintro _ s2 ⟨rfl, z2⟩
              have gS : Ext wr s2 := Ext.trans gS z2
              (try go_wp2_with fail)
              refine hK.out _ _ (fun _ => gS) ?_
              clear hK K
              (try simp only [Act.put, List.getElem_toArray, List.getElem_cons_succ, List.getElem_cons_zero, List.setIfInBounds_toArray, List.set_cons_zero, List.set_cons_succ])
              refine wpAnyG_take 18 (v := ?_) rfl (by kernel_rfl) (by kernel_rfl) (by kernel_rfl) (by kernel_rfl) (by rfl) (by kernel_rfl) (fun _ _ _ h => h) (by rfl) (fun w' hw' => ?_) gS ?_
              rotate_left
              focus (go_simp; (try with_reducible rfl); done)
              (try simp only [Act.put, List.getElem_toArray, List.getElem_cons_succ, List.getElem_cons_zero, List.setIfInBounds_toArray, List.set_cons_zero, List.set_cons_succ])
              refine wpAnyG_take 19 (v := ?_) rfl (by kernel_rfl) (by kernel_rfl) (by kernel_rfl) (by kernel_rfl) (by rfl) (by kernel_rfl) (fun _ _ _ h => h) (by rfl) (fun w' hw' => ?_) gS ?_
              rotate_left
              focus (go_simp; (try with_reducible rfl); done)
              (try simp only [Act.put, List.getElem_toArray, List.getElem_cons_succ, List.getElem_cons_zero, List.setIfInBounds_toArray, List.set_cons_zero, List.set_cons_succ])
              refine wpAnyG_take 20 (v := ?_) rfl (by kernel_rfl) (by kernel_rfl) (by kernel_rfl) (by kernel_rfl) (by rfl) (by kernel_rfl) (fun _ _ _ h => h) (by rfl) (fun w' hw' => ?_) gS ?_
              rotate_left
              focus (go_simp; (try with_reducible rfl); done)
              (try simp only [Act.put, List.getElem_toArray, List.getElem_cons_succ, List.getElem_cons_zero, List.setIfInBounds_toArray, List.set_cons_zero, List.set_cons_succ])
              refine wpAnyG_one 21 (by kernel_rfl) rfl (by rfl) (fun K hK => ?_)
              (try simp only [List.getElem_toArray, List.getElem_cons_succ, List.getElem_cons_zero])
              go_simp
              refine hK.out _ _ (fun h => absurd h (by decide)) ?_
              clear hK K
              (try simp only [Act.put, List.getElem_toArray, List.getElem_cons_succ, List.getElem_cons_zero, List.setIfInBounds_toArray, List.set_cons_zero, List.set_cons_succ])
              refine wpAnyG_done (by kernel_rfl) ?_ _
              go_wp2
              go_roundw
              case rel => exact ⟨k + 1, false, by omega, rfl, by go_num, Lib.hid (by rw [HXA.out, HXB.out, ← hR.out]; rfl), HHX.out.trans gS⟩
              case measure => simp [intOf]; omega
          · have d1 : decide (zz1 ≤ 0) = false := decide_eq_false (fun h => a1 (hcc1.1 h))
            have d1' : ¬ zz1 ≤ 0 := of_decide_eq_false d1
            have HXB := Lib.hid (show (decide (x.1 ≤ u) && decide (u ≤ x.2)) = false from by rw [decide_eq_false a1, Bool.false_and])
            clear hcc1 hcc2 a1
            go_upto_region 13 with (fail)
            refine wp_region_G (fun w' => Ext wr w') [21] (by kernel_rfl) ?_
            have gS : Ext wr wr.drew := (Below.refl _ _).drew
            refine wpAnyG_take 0 (v := ?_) rfl (by kernel_rfl) (by kernel_rfl) (by kernel_rfl) (by kernel_rfl) (by rfl) (by kernel_rfl) (fun _ _ _ h => h) (by rfl) (fun w' hw' => ?_) gS ?_
            rotate_left
            focus (go_simp; (try with_reducible rfl); done)
            (try simp only [Act.put, List.getElem_toArray, List.getElem_cons_succ, List.getElem_cons_zero, List.setIfInBounds_toArray, List.set_cons_zero, List.set_cons_succ])
            refine wpAnyG_take 1 (v := ?_) rfl (by kernel_rfl) (by kernel_rfl) (by kernel_rfl) (by kernel_rfl) (by rfl) (by kernel_rfl) (fun _ _ _ h => h) (by rfl) (fun w' hw' => ?_) gS ?_
            rotate_left
            focus (go_simp; (try with_reducible rfl); done)
            (try simp only [Act.put, List.getElem_toArray, List.getElem_cons_succ, List.getElem_cons_zero, List.setIfInBounds_toArray, List.set_cons_zero, List.set_cons_succ])
            refine wpAnyG_take 2 (v := ?_) rfl (by kernel_rfl) (by kernel_rfl) (by kernel_rfl) (by kernel_rfl) (by rfl) (by kernel_rfl) (fun _ _ _ h => h) (by rfl) (fun w' hw' => ?_) gS ?_
            rotate_left
            focus (go_simp; (try with_reducible rfl); done)
            (try simp only [Act.put, List.getElem_toArray, List.getElem_cons_succ, List.getElem_cons_zero, List.setIfInBounds_toArray, List.set_cons_zero, List.set_cons_succ])
            refine wpAnyG_take 3 (v := ?_) rfl (by kernel_rfl) (by kernel_rfl) (by kernel_rfl) (by kernel_rfl) (by rfl) (by kernel_rfl) (fun _ _ _ h => h) (by rfl) (fun w' hw' => ?_) gS ?_
            rotate_left
            focus (go_simp; (try with_reducible rfl); done)
            (try simp only [Act.put, List.getElem_toArray, List.getElem_cons_succ, List.getElem_cons_zero, List.setIfInBounds_toArray, List.set_cons_zero, List.set_cons_succ])
            refine wpAnyG_take 4 (v := ?_) rfl (by kernel_rfl) (by kernel_rfl) (by kernel_rfl) (by kernel_rfl) (by rfl) (by kernel_rfl) (fun _ _ _ h => h) (by rfl) (fun w' hw' => ?_) gS ?_
            rotate_left
            focus (go_simp; (try with_reducible rfl); done)
            (try simp only [Act.put, List.getElem_toArray, List.getElem_cons_succ, List.getElem_cons_zero, List.setIfInBounds_toArray, List.set_cons_zero, List.set_cons_succ])
            refine wpAnyG_take 5 (v := ?_) rfl (by kernel_rfl) (by kernel_rfl) (by kernel_rfl) (by kernel_rfl) (by rfl) (by kernel_rfl) (fun _ _ _ h => h) (by rfl) (fun w' hw' => ?_) gS ?_
            rotate_left
            focus (go_simp; (try with_reducible rfl); done)
            (try simp only [Act.put, List.getElem_toArray, List.getElem_cons_succ, List.getElem_cons_zero, List.setIfInBounds_toArray, List.set_cons_zero, List.set_cons_succ])
            refine wpAnyG_take 6 (v := ?_) rfl (by kernel_rfl) (by kernel_rfl) (by kernel_rfl) (by kernel_rfl) (by rfl) (by kernel_rfl) (fun _ _ _ h => h) (by rfl) (fun w' hw' => ?_) gS ?_
            rotate_left
            focus (have hh := HS.out _ hw'; go_split_ands; go_simp; (try with_reducible rfl); done)
            (try simp only [Act.put, List.getElem_toArray, List.getElem_cons_succ, List.getElem_cons_zero, List.setIfInBounds_toArray, List.set_cons_zero, List.set_cons_succ])
            refine wpAnyG_take 7 (v := ?_) rfl (by kernel_rfl) (by kernel_rfl) (by kernel_rfl) (by kernel_rfl) (by rfl) (by kernel_rfl) (fun _ _ _ h => h) (by rfl) (fun w' hw' => ?_) gS ?_
            rotate_left
            focus (have hh := HS.out _ hw'; go_split_ands; go_simp; (try with_reducible rfl); done)
            (try simp only [Act.put, List.getElem_toArray, List.getElem_cons_succ, List.getElem_cons_zero, List.setIfInBounds_toArray, List.set_cons_zero, List.set_cons_succ])
            refine wpAnyG_one 8 (by kernel_rfl) rfl (by rfl) (fun K hK => ?_)
            go_simp
            go_at_call 9
            refine (HC1.out _ gS).mono ?_
            rintro _ s1 ⟨rfl, z1⟩
            have gS : Ext wr s1 := Ext.trans gS z1
            (try go_wp2_with fail)
            refine hK.out _ _ (fun _ => gS) ?_
            clear hK K
            (try simp only [Act.put, List.getElem_toArray, List.getElem_cons_succ, List.getElem_cons_zero, List.setIfInBounds_toArray, List.set_cons_zero, List.set_cons_succ])
            refine wpAnyG_take 9 (v := ?_) rfl (by kernel_rfl) (by kernel_rfl) (by kernel_rfl) (by kernel_rfl) (by rfl) (by kernel_rfl) (fun _ _ _ h => h) (by rfl) (fun w' hw' => ?_) gS ?_
            rotate_left
            focus (go_simp; (try with_reducible rfl); done)
            (try simp only [Act.put, List.getElem_toArray, List.getElem_cons_succ, List.getElem_cons_zero, List.setIfInBounds_toArray, List.set_cons_zero, List.set_cons_succ])
            refine wpAnyG_take 10 (v := ?_) rfl (by kernel_rfl) (by kernel_rfl) (by kernel_rfl) (by kernel_rfl) (by rfl) (by kernel_rfl) (fun _ _ _ h => h) (by rfl) (fun w' hw' => ?_) gS ?_
            rotate_left
            focus (go_simp; (try with_reducible rfl); done)
            (try simp only [Act.put, List.getElem_toArray, List.getElem_cons_succ, List.getElem_cons_zero, List.setIfInBounds_toArray, List.set_cons_zero, List.set_cons_succ])
            refine wpAnyG_skip 11 rfl (by kernel_rfl) (by kernel_rfl) (by kernel_rfl) (by kernel_rfl) (by rfl) (by kernel_rfl) (fun _ _ _ h => h) (by rfl) gS ?_
            (try simp only [Act.put, List.getElem_toArray, List.getElem_cons_succ, List.getElem_cons_zero, List.setIfInBounds_toArray, List.set_cons_zero, List.set_cons_succ])
            refine wpAnyG_skip 12 rfl (by kernel_rfl) (by kernel_rfl) (by kernel_rfl) (by kernel_rfl) (by rfl) (by kernel_rfl) (fun _ _ _ h => h) (by rfl) gS ?_
            (try simp only [Act.put, List.getElem_toArray, List.getElem_cons_succ, List.getElem_cons_zero, List.setIfInBounds_toArray, List.set_cons_zero, List.set_cons_succ])
            refine wpAnyG_skip 13 rfl (by kernel_rfl) (by kernel_rfl) (by kernel_rfl) (by kernel_rfl) (by rfl) (by kernel_rfl) (fun _ _ _ h => h) (by rfl) gS ?_
            (try simp only [Act.put, List.getElem_toArray, List.getElem_cons_succ, List.getElem_cons_zero, List.setIfInBounds_toArray, List.set_cons_zero, List.set_cons_succ])
            refine wpAnyG_skip 14 rfl (by kernel_rfl) (by kernel_rfl) (by kernel_rfl) (by kernel_rfl) (by rfl) (by kernel_rfl) (fun _ _ _ h => h) (by rfl) gS ?_
            (try simp only [Act.put, List.getElem_toArray, List.getElem_cons_succ, List.getElem_cons_zero, List.setIfInBounds_toArray, List.set_cons_zero, List.set_cons_succ])
            refine wpAnyG_skip 15 rfl (by kernel_rfl) (by kernel_rfl) (by kernel_rfl) (by kernel_rfl) (by rfl) (by kernel_rfl) (fun _ _ _ h => h) (by rfl) gS ?_
            (try simp only [Act.put, List.getElem_toArray, List.getElem_cons_succ, List.getElem_cons_zero, List.setIfInBounds_toArray, List.set_cons_zero, List.set_cons_succ])
            refine wpAnyG_skip 16 rfl (by kernel_rfl) (by kernel_rfl) (by kernel_rfl) (by kernel_rfl) (by rfl) (by kernel_rfl) (fun _ _ _ h => h) (by rfl) gS ?_
            (try simp only [Act.put, List.getElem_toArray, List.getElem_cons_succ, List.getElem_cons_zero, List.setIfInBounds_toArray, List.set_cons_zero, List.set_cons_succ])
            refine wpAnyG_skip 17 rfl (by kernel_rfl) (by kernel_rfl) (by kernel_rfl) (by kernel_rfl) (by rfl) (by kernel_rfl) (fun _ _ _ h => h) (by rfl) gS ?_
            (try simp only [Act.put, List.getElem_toArray, List.getElem_cons_succ, List.getElem_cons_zero, List.setIfInBounds_toArray, List.set_cons_zero, List.set_cons_succ])
            refine wpAnyG_skip 18 rfl (by kernel_rfl) (by kernel_rfl) (by kernel_rfl) (by kernel_rfl) (by rfl) (by kernel_rfl) (fun _ _ _ h => h) (by rfl) gS ?_
            (try simp only [Act.put, List.getElem_toArray, List.getElem_cons_succ, List.getElem_cons_zero, List.setIfInBounds_toArray, List.set_cons_zero, List.set_cons_succ])
            refine wpAnyG_take 19 (v := ?_) rfl (by kernel_rfl) (by kernel_rfl) (by kernel_rfl) (by kernel_rfl) (by rfl) (by kernel_rfl) (fun _ _ _ h => h) (by rfl) (fun w' hw' => ?_) gS ?_
            rotate_left
            focus (go_simp; (try with_reducible rfl); done)
            (try simp only [Act.put, List.getElem_toArray, List.getElem_cons_succ, List.getElem_cons_zero, List.setIfInBounds_toArray, List.set_cons_zero, List.set_cons_succ])
            refine wpAnyG_take 20 (v := ?_) rfl (by kernel_rfl) (by kernel_rfl) (by kernel_rfl) (by kernel_rfl) (by rfl) (by kernel_rfl) (fun _ _ _ h => h) (by rfl) (fun w' hw' => ?_) gS ?_
            rotate_left
            focus (go_simp; (try with_reducible rfl); done)
            (try simp only [Act.put, List.getElem_toArray, List.getElem_cons_succ, List.getElem_cons_zero, List.setIfInBounds_toArray, List.set_cons_zero, List.set_cons_succ])
            refine wpAnyG_one 21 (by kernel_rfl) rfl (by rfl) (fun K hK => ?_)
            (try simp only [List.getElem_toArray, List.getElem_cons_succ, List.getElem_cons_zero])
            go_simp
            refine hK.out _ _ (fun h => absurd h (by decide)) ?_
            clear hK K
            (try simp only [Act.put, List.getElem_toArray, List.getElem_cons_succ, List.getElem_cons_zero, List.setIfInBounds_toArray, List.set_cons_zero, List.set_cons_succ])
            refine wpAnyG_done (by kernel_rfl) ?_ _
            go_wp2
            go_roundw
            case rel => exact ⟨k + 1, false, by omega, rfl, by go_num, Lib.hid (by rw [HXA.out, HXB.out, ← hR.out]; rfl), HHX.out.trans gS⟩
            case measure => simp [intOf]; omega
      · obtain rfl : ss.length = k := by omega
        have hnn : ¬ ((ss.length : Int) < (ss.length : Int)) := by omega
        have hra := hR.out
        rw [List.take_length, HIN.out] at hra
        subst hra
        clear hR
        go_wp2
        clear hnn
        go_loopw [15, 16] (fun rv kv wr => ∃ (k : Nat) (r : Bool), k ≤ zs.length ∧ rv = .bool r ∧ kv = .int .i64 k ∧ Hid (r = (zs.take k).all (fun v => inS (spansL v tol m) u)) ∧ Ext U3 wr) (fun _ kv _ => zs.length - (intOf kv).toNat)
        case atStart => exact ⟨0, true, Nat.zero_le _, rfl, rfl, Lib.hid (by rw [List.take_zero]; rfl), hx⟩
        case round =>
          clear hx
          obtain ⟨k, r, hk, rfl, rfl, hR, hx⟩ := hrel
          by_cases hkn : k < zs.length
          · have hi1 : (0 : Int) ≤ (k : Int) := by omega
            have hi2 : (k : Int) < (zs.length : Int) := by omega
            have hwk : IntKind.i64.wrap (k : Int) = (k : Int) := wrap_in (by omega)
            have HXA := Lib.hid (all_take_succ zs (fun v => inS (spansL v tol m) u) (getD_atU hkn))
            have gD : Ext wr wr.drew := (Below.refl _ _).drew
            have HGD := Lib.hid (hx.trans gD)
            cases r with
            | false =>
              clear gD
              go_upto_region 18 with (fail)
              refine wp_region_G (fun w' => Ext wr w') [11] (by kernel_rfl) ?_
              have gS : Ext wr wr.drew := (Below.refl _ _).drew
              refine wpAnyG_take 0 (v := ?_) rfl (by kernel_rfl) (by kernel_rfl) (by kernel_rfl) (by kernel_rfl) (by rfl) (by kernel_rfl) (fun _ _ _ h => h) (by rfl) (fun w' hw' => ?_) gS ?_
              rotate_left
              focus (go_simp; (try with_reducible rfl); done)
              (try simp only [Act.put, List.getElem_toArray, List.getElem_cons_succ, List.getElem_cons_zero, List.setIfInBounds_toArray, List.set_cons_zero, List.set_cons_succ])
              refine wpAnyG_take 1 (v := ?_) rfl (by kernel_rfl) (by kernel_rfl) (by kernel_rfl) (by kernel_rfl) (by rfl) (by kernel_rfl) (fun _ _ _ h => h) (by rfl) (fun w' hw' => ?_) gS ?_
              rotate_left
              focus (go_simp; (try with_reducible rfl); done)
              (try simp only [Act.put, List.getElem_toArray, List.getElem_cons_succ, List.getElem_cons_zero, List.setIfInBounds_toArray, List.set_cons_zero, List.set_cons_succ])
              refine wpAnyG_skip 2 rfl (by kernel_rfl) (by kernel_rfl) (by kernel_rfl) (by kernel_rfl) (by rfl) (by kernel_rfl) (fun _ _ _ h => h) (by rfl) gS ?_
              (try simp only [Act.put, List.getElem_toArray, List.getElem_cons_succ, List.getElem_cons_zero, List.setIfInBounds_toArray, List.set_cons_zero, List.set_cons_succ])
              refine wpAnyG_skip 3 rfl (by kernel_rfl) (by kernel_rfl) (by kernel_rfl) (by kernel_rfl) (by rfl) (by kernel_rfl) (fun _ _ _ h => h) (by rfl) gS ?_
              (try simp only [Act.put, List.getElem_toArray, List.getElem_cons_succ, List.getElem_cons_zero, List.setIfInBounds_toArray, List.set_cons_zero, List.set_cons_succ])
              refine wpAnyG_skip 4 rfl (by kernel_rfl) (by kernel_rfl) (by kernel_rfl) (by kernel_rfl) (by rfl) (by kernel_rfl) (fun _ _ _ h => h) (by rfl) gS ?_
              (try simp only [Act.put, List.getElem_toArray, List.getElem_cons_succ, List.getElem_cons_zero, List.setIfInBounds_toArray, List.set_cons_zero, List.set_cons_succ])
              refine wpAnyG_skip 5 rfl (by kernel_rfl) (by kernel_rfl) (by kernel_rfl) (by kernel_rfl) (by rfl) (by kernel_rfl) (fun _ _ _ h => h) (by rfl) gS ?_
              (try simp only [Act.put, List.getElem_toArray, List.getElem_cons_succ, List.getElem_cons_zero, List.setIfInBounds_toArray, List.set_cons_zero, List.set_cons_succ])
              refine wpAnyG_skip 6 rfl (by kernel_rfl) (by kernel_rfl) (by kernel_rfl) (by kernel_rfl) (by rfl) (by kernel_rfl) (fun _ _ _ h => h) (by rfl) gS ?_
              (try simp only [Act.put, List.getElem_toArray, List.getElem_cons_succ, List.getElem_cons_zero, List.setIfInBounds_toArray, List.set_cons_zero, List.set_cons_succ])
              refine wpAnyG_skip 7 rfl (by kernel_rfl) (by kernel_rfl) (by kernel_rfl) (by kernel_rfl) (by rfl) (by kernel_rfl) (fun _ _ _ h => h) (by rfl) gS ?_
              (try simp only [Act.put, List.getElem_toArray, List.getElem_cons_succ, List.getElem_cons_zero, List.setIfInBounds_toArray, List.set_cons_zero, List.set_cons_succ])
              refine wpAnyG_skip 8 rfl (by kernel_rfl) (by kernel_rfl) (by kernel_rfl) (by kernel_rfl) (by rfl) (by kernel_rfl) (fun _ _ _ h => h) (by rfl) gS ?_
              (try simp only [Act.put, List.getElem_toArray, List.getElem_cons_succ, List.getElem_cons_zero, List.setIfInBounds_toArray, List.set_cons_zero, List.set_cons_succ])
              refine wpAnyG_skip 9 rfl (by kernel_rfl) (by kernel_rfl) (by kernel_rfl) (by kernel_rfl) (by rfl) (by kernel_rfl) (fun _ _ _ h => h) (by rfl) gS ?_
              (try simp only [Act.put, List.getElem_toArray, List.getElem_cons_succ, List.getElem_cons_zero, List.setIfInBounds_toArray, List.set_cons_zero, List.set_cons_succ])
              refine wpAnyG_take 10 (v := ?_) rfl (by kernel_rfl) (by kernel_rfl) (by kernel_rfl) (by kernel_rfl) (by rfl) (by kernel_rfl) (fun _ _ _ h => h) (by rfl) (fun w' hw' => ?_) gS ?_
              rotate_left
              focus (go_simp; (try with_reducible rfl); done)
              (try simp only [Act.put, List.getElem_toArray, List.getElem_cons_succ, List.getElem_cons_zero, List.setIfInBounds_toArray, List.set_cons_zero, List.set_cons_succ])
              refine wpAnyG_one 11 (by kernel_rfl) rfl (by rfl) (fun K hK => ?_)
              (try simp only [List.getElem_toArray, List.getElem_cons_succ, List.getElem_cons_zero])
              go_simp
              refine hK.out _ _ (fun h => absurd h (by decide)) ?_
              clear hK K
              (try simp only [Act.put, List.getElem_toArray, List.getElem_cons_succ, List.getElem_cons_zero, List.setIfInBounds_toArray, List.set_cons_zero, List.set_cons_succ])
              refine wpAnyG_done (by kernel_rfl) ?_ _
              go_wp2
              go_roundw
              case rel => exact ⟨k + 1, false, by omega, rfl, by go_num, Lib.hid (by rw [HXA.out, ← hR.out]; rfl), HGD.out⟩
              case measure => simp [intOf]; omega
            | true =>
              obtain ⟨bz, oz, rfl, hbz, hcz⟩ := ints_pl (HV.out _ (Below.refl _ _)) hkn
              obtain ⟨x, hxe⟩ : ∃ x, x = zs.getD k 0 := ⟨_, rfl⟩
              have hxm := getD_memU hkn
              rw [← hxe] at hcz hxm HXA
              have HF1 := Lib.hid (fun (w' : World) (h : Ext wr w') => HFI.out x hxm w' (HX3.out.trans (hx.trans h)))
              have HS := Lib.hid (fun (w' : World) (h : Ext wr w') => (⟨((HX3.out.trans (hx.trans h)).cell (p := ⟨bz, oz + k, none⟩) hbz).trans hcz, (HUB3.out _ (hx.trans h)).1, (HUB3.out _ (hx.trans h)).2.1, (HUB3.out _ (hx.trans h)).2.2.1⟩ : w'.cell? ⟨bz, oz + k, none⟩ = some (.int .i64 x) ∧ w'.cell? ⟨w.heap.size, 0, none⟩ = some (.bool ng) ∧ w'.cell? ⟨w.heap.size, 1, none⟩ = some (.slice A nl c) ∧ w'.cell? ⟨w.heap.size, 2, none⟩ = some (.slice A' dl c')))
              have HHX := Lib.hid hx
              clear hcz hxe hxm hx gD HGD
              go_upto_region 18 with (fail)
              refine wp_region_G (fun w' => Ext wr w') [11] (by kernel_rfl) ?_
              have gS : Ext wr wr.drew := (Below.refl _ _).drew
              refine wpAnyG_take 0 (v := ?_) rfl (by kernel_rfl) (by kernel_rfl) (by kernel_rfl) (by kernel_rfl) (by rfl) (by kernel_rfl) (fun _ _ _ h => h) (by rfl) (fun w' hw' => ?_) gS ?_
              rotate_left
              focus (go_simp; (try with_reducible rfl); done)
              (try simp only [Act.put, List.getElem_toArray, List.getElem_cons_succ, List.getElem_cons_zero, List.setIfInBounds_toArray, List.set_cons_zero, List.set_cons_succ])
              refine wpAnyG_take 1 (v := ?_) rfl (by kernel_rfl) (by kernel_rfl) (by kernel_rfl) (by kernel_rfl) (by rfl) (by kernel_rfl) (fun _ _ _ h => h) (by rfl) (fun w' hw' => ?_) gS ?_
              rotate_left
              focus (go_simp; (try with_reducible rfl); done)
              (try simp only [Act.put, List.getElem_toArray, List.getElem_cons_succ, List.getElem_cons_zero, List.setIfInBounds_toArray, List.set_cons_zero, List.set_cons_succ])
              refine wpAnyG_take 2 (v := ?_) rfl (by kernel_rfl) (by kernel_rfl) (by kernel_rfl) (by kernel_rfl) (by rfl) (by kernel_rfl) (fun _ _ _ h => h) (by rfl) (fun w' hw' => ?_) gS ?_
              rotate_left
              focus (go_simp; (try with_reducible rfl); done)
              (try simp only [Act.put, List.getElem_toArray, List.getElem_cons_succ, List.getElem_cons_zero, List.setIfInBounds_toArray, List.set_cons_zero, List.set_cons_succ])
              refine wpAnyG_take 3 (v := ?_) rfl (by kernel_rfl) (by kernel_rfl) (by kernel_rfl) (by kernel_rfl) (by rfl) (by kernel_rfl) (fun _ _ _ h => h) (by rfl) (fun w' hw' => ?_) gS ?_
              rotate_left
              focus (go_simp; (try with_reducible rfl); done)
              (try simp only [Act.put, List.getElem_toArray, List.getElem_cons_succ, List.getElem_cons_zero, List.setIfInBounds_toArray, List.set_cons_zero, List.set_cons_succ])
              refine wpAnyG_take 4 (v := ?_) rfl (by kernel_rfl) (by kernel_rfl) (by kernel_rfl) (by kernel_rfl) (by rfl) (by kernel_rfl) (fun _ _ _ h => h) (by rfl) (fun w' hw' => ?_) gS ?_
              rotate_left
              focus (go_simp; (try with_reducible rfl); done)
              (try simp only [Act.put, List.getElem_toArray, List.getElem_cons_succ, List.getElem_cons_zero, List.setIfInBounds_toArray, List.set_cons_zero, List.set_cons_succ])
              refine wpAnyG_take 5 (v := ?_) rfl (by kernel_rfl) (by kernel_rfl) (by kernel_rfl) (by kernel_rfl) (by rfl) (by kernel_rfl) (fun _ _ _ h => h) (by rfl) (fun w' hw' => ?_) gS ?_
              rotate_left
              focus (have hh := HS.out _ hw'; go_split_ands; go_simp; (try with_reducible rfl); done)
              (try simp only [Act.put, List.getElem_toArray, List.getElem_cons_succ, List.getElem_cons_zero, List.setIfInBounds_toArray, List.set_cons_zero, List.set_cons_succ])
              refine wpAnyG_take 6 (v := ?_) rfl (by kernel_rfl) (by kernel_rfl) (by kernel_rfl) (by kernel_rfl) (by rfl) (by kernel_rfl) (fun _ _ _ h => h) (by rfl) (fun w' hw' => ?_) gS ?_
              rotate_left
              focus (have hh := HS.out _ hw'; go_split_ands; go_simp; (try with_reducible rfl); done)
              (try simp only [Act.put, List.getElem_toArray, List.getElem_cons_succ, List.getElem_cons_zero, List.setIfInBounds_toArray, List.set_cons_zero, List.set_cons_succ])
              refine wpAnyG_take 7 (v := ?_) rfl (by kernel_rfl) (by kernel_rfl) (by kernel_rfl) (by kernel_rfl) (by rfl) (by kernel_rfl) (fun _ _ _ h => h) (by rfl) (fun w' hw' => ?_) gS ?_
              rotate_left
              focus (go_simp; (try with_reducible rfl); done)
              (try simp only [Act.put, List.getElem_toArray, List.getElem_cons_succ, List.getElem_cons_zero, List.setIfInBounds_toArray, List.set_cons_zero, List.set_cons_succ])
              refine wpAnyG_take 8 (v := ?_) rfl (by kernel_rfl) (by kernel_rfl) (by kernel_rfl) (by kernel_rfl) (by rfl) (by kernel_rfl) (fun _ _ _ h => h) (by rfl) (fun w' hw' => ?_) gS ?_
              rotate_left
              focus (go_simp; (try with_reducible rfl); done)
              (try simp only [Act.put, List.getElem_toArray, List.getElem_cons_succ, List.getElem_cons_zero, List.setIfInBounds_toArray, List.set_cons_zero, List.set_cons_succ])
              refine wpAnyG_one 9 (by kernel_rfl) rfl (by rfl) (fun K hK => ?_)
              (try simp only [List.getElem_toArray, List.getElem_cons_succ, List.getElem_cons_zero])
              go_simp
              go_at_call 10
              refine (HF1.out _ gS).mono ?_
              rintro _ s1 ⟨rfl, z1⟩
              have gS : Ext wr s1 := Ext.trans gS z1
              (try go_wp2_with fail)
              refine hK.out _ _ (fun _ => gS) ?_
              clear hK K
              (try simp only [Act.put, List.getElem_toArray, List.getElem_cons_succ, List.getElem_cons_zero, List.setIfInBounds_toArray, List.set_cons_zero, List.set_cons_succ])
              refine wpAnyG_take 10 (v := ?_) rfl (by kernel_rfl) (by kernel_rfl) (by kernel_rfl) (by kernel_rfl) (by rfl) (by kernel_rfl) (fun _ _ _ h => h) (by rfl) (fun w' hw' => ?_) gS ?_
              rotate_left
              focus (go_simp; (try with_reducible rfl); done)
              (try simp only [Act.put, List.getElem_toArray, List.getElem_cons_succ, List.getElem_cons_zero, List.setIfInBounds_toArray, List.set_cons_zero, List.set_cons_succ])
              refine wpAnyG_one 11 (by kernel_rfl) rfl (by rfl) (fun K hK => ?_)
              (try simp only [List.getElem_toArray, List.getElem_cons_succ, List.getElem_cons_zero])
              go_simp
              refine hK.out _ _ (fun h => absurd h (by decide)) ?_
              clear hK K
              (try simp only [Act.put, List.getElem_toArray, List.getElem_cons_succ, List.getElem_cons_zero, List.setIfInBounds_toArray, List.set_cons_zero, List.set_cons_succ])
              refine wpAnyG_done (by kernel_rfl) ?_ _
              go_wp2
              go_roundw
              case rel => exact ⟨k + 1, inS (spansL x tol m) u, by omega, rfl, by go_num, Lib.hid (by rw [HXA.out, ← hR.out]; rfl), HHX.out.trans gS⟩
              case measure => simp [intOf]; omega
          · obtain rfl : zs.length = k := by omega
            have hnn : ¬ ((zs.length : Int) < (zs.length : Int)) := by omega
            have hra := hR.out
            rw [List.take_length, ← HAL.out] at hra
            subst hra
            clear hR
            cases r with
            | true =>
              have HSA2 := HSA.out
              have gsc : ((sc : Int) == (zs.length : Int)) = true := by rw [beq_iff_eq]; have := HSA2.2 rfl; omega
              have HSA3 := Lib.hid HSA2
              clear HSA HSA2
              obtain ⟨c00, c01, c02, _, _, _⟩ := HUB3.out _ hx
              go_wp2_with fail
              refine (HER.out _ (HX3.out.trans hx)).mono ?_
              rintro e w5 ⟨b5, A5, k5, c5, A5', k5', c5', rfl, h5, y5, n5, n5'⟩
              clear n5 n5' c00 c01 c02
              go_upto_region 22 with (fail)
              have hG5 := FBox.new w5 (.bool b5) (.slice A5 k5 c5) (.slice A5' k5' c5') 27
              have Y5 : Ext wr (w5.alloc (.cells #[.bool b5, .slice A5 k5 c5, .slice A5' k5' c5'] 27)) := ext_alloc y5 _
              have h5 := h5.below (ext_alloc (Below.refl _ _) (.cells #[.bool b5, .slice A5 k5 c5, .slice A5' k5' c5'] 27))
              have hsz5 : w5.heap.size < (w5.alloc (.cells #[.bool b5, .slice A5 k5 c5, .slice A5' k5' c5'] 27)).heap.size := by simp
              generalize w5.alloc (.cells #[.bool b5, .slice A5 k5 c5, .slice A5' k5' c5'] 27) = W5 at *
              generalize w5.heap.size = B5 at *
              have HX5 := Lib.hid (HX3.out.trans (hx.trans Y5))
              have HUW5 := Lib.hid (fun (w' : World) (h : Ext W5 w') => HUB3.out w' (hx.trans (Y5.trans h)))
              have HV5 := Lib.hid (fun (w' : World) (h : Ext W5 w') => FracV.any (h5.below h) HEF.out (by omega))
              have HFT := Lib.hid (fb_i64 (n := tol) (d := 1) (by omega) (by omega))
              have HS := Lib.hid (fun (w' : World) (h : Ext W5 w') => (⟨⟨(HUW5.out _ h).1, (HUW5.out _ h).2.1, (HUW5.out _ h).2.2.1⟩, (hG5.below h).1, (hG5.below h).2.1, (hG5.below h).2.2.1⟩ : (w'.cell? ⟨w.heap.size, 0, none⟩ = some (.bool ng) ∧ w'.cell? ⟨w.heap.size, 1, none⟩ = some (.slice A nl c) ∧ w'.cell? ⟨w.heap.size, 2, none⟩ = some (.slice A' dl c')) ∧ w'.cell? ⟨B5, 0, none⟩ = some (.bool b5) ∧ w'.cell? ⟨B5, 1, none⟩ = some (.slice A5 k5 c5) ∧ w'.cell? ⟨B5, 2, none⟩ = some (.slice A5' k5' c5')))
              obtain ⟨z1, hz1⟩ : ∃ z, z = cmpQ u 1 := ⟨_, rfl⟩
              obtain ⟨z2, hz2⟩ : ∃ z, z = cmpQ (errTo u m zs) (((tol : Int) : Rat) / ((1 : Int) : Rat)) := ⟨_, rfl⟩
              have hc1 : 0 ≤ z1 ↔ 1 ≤ u := by rw [hz1]; exact cmp_ge
              have hc2 : z2 ≤ 0 ↔ errTo u m zs ≤ (tol : Rat) := by rw [hz2, over_one]; exact cmp_le
              have HZ1 := Lib.hid hz1.symm
              have HZ2 := Lib.hid hz2.symm
              clear hz1 hz2 hG5 h5 y5 hsz5 gsc
              by_cases hu1 : 1 ≤ u
              · have hq1 : decide (0 ≤ z1) = true := decide_eq_true (hc1.2 hu1)
                have hq1' : 0 ≤ z1 := hc1.2 hu1
                have hea := HEA.out hu1
                have hq2 : decide (z2 ≤ 0) = true := by exact decide_eq_true (hc2.2 (hea.2 (by trivial)))
                have hq2' : z2 ≤ 0 := of_decide_eq_true hq2
                clear hc1 hc2 hea hu1
                refine wp_region_G (fun w' => Ext W5 w') [16] (by kernel_rfl) ?_
                have gS : Ext W5 W5.drew := (Below.refl _ _).drew
                refine wpAnyG_take 0 (v := ?_) rfl (by kernel_rfl) (by kernel_rfl) (by kernel_rfl) (by kernel_rfl) (by rfl) (by kernel_rfl) (fun _ _ _ h => h) (by rfl) (fun w' hw' => ?_) gS ?_
                rotate_left
                focus (go_simp; (try with_reducible rfl); done)
                (try simp only [Act.put, List.getElem_toArray, List.getElem_cons_succ, List.getElem_cons_zero, List.setIfInBounds_toArray, List.set_cons_zero, List.set_cons_succ])
                refine wpAnyG_take 1 (v := ?_) rfl (by kernel_rfl) (by kernel_rfl) (by kernel_rfl) (by kernel_rfl) (by rfl) (by kernel_rfl) (fun _ _ _ h => h) (by rfl) (fun w' hw' => ?_) gS ?_
                rotate_left
                focus (go_simp; (try with_reducible rfl); done)
                (try simp only [Act.put, List.getElem_toArray, List.getElem_cons_succ, List.getElem_cons_zero, List.setIfInBounds_toArray, List.set_cons_zero, List.set_cons_succ])
                refine wpAnyG_take 2 (v := ?_) rfl (by kernel_rfl) (by kernel_rfl) (by kernel_rfl) (by kernel_rfl) (by rfl) (by kernel_rfl) (fun _ _ _ h => h) (by rfl) (fun w' hw' => ?_) gS ?_
                rotate_left
                focus (go_simp; (try with_reducible rfl); done)
                (try simp only [Act.put, List.getElem_toArray, List.getElem_cons_succ, List.getElem_cons_zero, List.setIfInBounds_toArray, List.set_cons_zero, List.set_cons_succ])
                refine wpAnyG_take 3 (v := ?_) rfl (by kernel_rfl) (by kernel_rfl) (by kernel_rfl) (by kernel_rfl) (by rfl) (by kernel_rfl) (fun _ _ _ h => h) (by rfl) (fun w' hw' => ?_) gS ?_
                rotate_left
                focus (have hh := HS.out _ hw'; go_split_ands; go_simp; (try with_reducible rfl); done)
                (try simp only [Act.put, List.getElem_toArray, List.getElem_cons_succ, List.getElem_cons_zero, List.setIfInBounds_toArray, List.set_cons_zero, List.set_cons_succ])
                refine wpAnyG_one 4 (by kernel_rfl) rfl (by rfl) (fun K hK => ?_)
                go_simp
                go_at_call 12
                refine (fof_n (n := 1) (d := 1) (by omega) (by omega)).mono ?_
                rintro _ s1 ⟨b1, A1, k1, c1, B1, l1, d1, rfl, h1, z1, n1, m1⟩
                rw [one_overU] at h1
                have gS : Ext W5 s1 := Ext.trans gS z1
                (try go_wp2_with fail)
                refine hK.out _ _ (fun _ => gS) ?_
                clear hK K
                (try simp only [Act.put, List.getElem_toArray, List.getElem_cons_succ, List.getElem_cons_zero, List.setIfInBounds_toArray, List.set_cons_zero, List.set_cons_succ])
                refine wpAnyG_one 5 (by kernel_rfl) rfl (by rfl) (fun K hK => ?_)
                go_simp
                go_at_call 9
                refine (cmp_e (HX.out _ (HX5.out.trans gS)) (FracV.any h1 fb_oneU (by omega)) (by omega) HZ1.out).mono ?_
                rintro _ s2 ⟨rfl, z2⟩
                have gS : Ext W5 s2 := Ext.trans gS z2
                (try go_wp2_with fail)
                refine hK.out _ _ (fun _ => gS) ?_
                clear hK K
                (try simp only [Act.put, List.getElem_toArray, List.getElem_cons_succ, List.getElem_cons_zero, List.setIfInBounds_toArray, List.set_cons_zero, List.set_cons_succ])
                refine wpAnyG_take 6 (v := ?_) rfl (by kernel_rfl) (by kernel_rfl) (by kernel_rfl) (by kernel_rfl) (by rfl) (by kernel_rfl) (fun _ _ _ h => h) (by rfl) (fun w' hw' => ?_) gS ?_
                rotate_left
                focus (go_simp; (try with_reducible rfl); done)
                (try simp only [Act.put, List.getElem_toArray, List.getElem_cons_succ, List.getElem_cons_zero, List.setIfInBounds_toArray, List.set_cons_zero, List.set_cons_succ])
                refine wpAnyG_take 7 (v := ?_) rfl (by kernel_rfl) (by kernel_rfl) (by kernel_rfl) (by kernel_rfl) (by rfl) (by kernel_rfl) (fun _ _ _ h => h) (by rfl) (fun w' hw' => ?_) gS ?_
                rotate_left
                focus (go_simp; (try with_reducible rfl); done)
                (try simp only [Act.put, List.getElem_toArray, List.getElem_cons_succ, List.getElem_cons_zero, List.setIfInBounds_toArray, List.set_cons_zero, List.set_cons_succ])
                refine wpAnyG_take 8 (v := ?_) rfl (by kernel_rfl) (by kernel_rfl) (by kernel_rfl) (by kernel_rfl) (by rfl) (by kernel_rfl) (fun _ _ _ h => h) (by rfl) (fun w' hw' => ?_) gS ?_
                rotate_left
                focus (go_simp; (try with_reducible rfl); done)
                (try simp only [Act.put, List.getElem_toArray, List.getElem_cons_succ, List.getElem_cons_zero, List.setIfInBounds_toArray, List.set_cons_zero, List.set_cons_succ])
                refine wpAnyG_take 9 (v := ?_) rfl (by kernel_rfl) (by kernel_rfl) (by kernel_rfl) (by kernel_rfl) (by rfl) (by kernel_rfl) (fun _ _ _ h => h) (by rfl) (fun w' hw' => ?_) gS ?_
                rotate_left
                focus (have hh := HS.out _ hw'; go_split_ands; go_simp; (try with_reducible rfl); done)
                (try simp only [Act.put, List.getElem_toArray, List.getElem_cons_succ, List.getElem_cons_zero, List.setIfInBounds_toArray, List.set_cons_zero, List.set_cons_succ])
                refine wpAnyG_take 10 (v := ?_) rfl (by kernel_rfl) (by kernel_rfl) (by kernel_rfl) (by kernel_rfl) (by rfl) (by kernel_rfl) (fun _ _ _ h => h) (by rfl) (fun w' hw' => ?_) gS ?_
                rotate_left
                focus (go_simp; (try with_reducible rfl); done)
                (try simp only [Act.put, List.getElem_toArray, List.getElem_cons_succ, List.getElem_cons_zero, List.setIfInBounds_toArray, List.set_cons_zero, List.set_cons_succ])
                refine wpAnyG_one 11 (by kernel_rfl) rfl (by rfl) (fun K hK => ?_)
                (try simp only [List.getElem_toArray, List.getElem_cons_succ, List.getElem_cons_zero])
                go_simp
                go_at_call 12
                refine (fof_n (n := tol) (d := 1) (by omega) (by omega)).mono ?_
                rintro _ s3 ⟨b3, A3, k3, c3, B3, l3, d3, rfl, h3, z3, n3, m3⟩
                have gS : Ext W5 s3 := Ext.trans gS z3
                (try go_wp2_with fail)
                refine hK.out _ _ (fun _ => gS) ?_
                clear hK K
                (try simp only [Act.put, List.getElem_toArray, List.getElem_cons_succ, List.getElem_cons_zero, List.setIfInBounds_toArray, List.set_cons_zero, List.set_cons_succ])
                refine wpAnyG_one 12 (by kernel_rfl) rfl (by rfl) (fun K hK => ?_)
                (try simp only [List.getElem_toArray, List.getElem_cons_succ, List.getElem_cons_zero])
                go_simp
                go_at_call 9
                refine (cmp_e (HV5.out _ gS) (FracV.any h3 HFT.out (by omega)) (by omega) HZ2.out).mono ?_
                rintro _ s4 ⟨rfl, z4⟩
                have gS : Ext W5 s4 := Ext.trans gS z4
                (try go_wp2_with fail)
                refine hK.out _ _ (fun _ => gS) ?_
                clear hK K
                (try simp only [Act.put, List.getElem_toArray, List.getElem_cons_succ, List.getElem_cons_zero, List.setIfInBounds_toArray, List.set_cons_zero, List.set_cons_succ])
                refine wpAnyG_take 13 (v := ?_) rfl (by kernel_rfl) (by kernel_rfl) (by kernel_rfl) (by kernel_rfl) (by rfl) (by kernel_rfl) (fun _ _ _ h => h) (by rfl) (fun w' hw' => ?_) gS ?_
                rotate_left
                focus (go_simp; (try with_reducible rfl); done)
                (try simp only [Act.put, List.getElem_toArray, List.getElem_cons_succ, List.getElem_cons_zero, List.setIfInBounds_toArray, List.set_cons_zero, List.set_cons_succ])
                refine wpAnyG_take 14 (v := ?_) rfl (by kernel_rfl) (by kernel_rfl) (by kernel_rfl) (by kernel_rfl) (by rfl) (by kernel_rfl) (fun _ _ _ h => h) (by rfl) (fun w' hw' => ?_) gS ?_
                rotate_left
                focus (go_simp; (try with_reducible rfl); done)
                (try simp only [Act.put, List.getElem_toArray, List.getElem_cons_succ, List.getElem_cons_zero, List.setIfInBounds_toArray, List.set_cons_zero, List.set_cons_succ])
                refine wpAnyG_take 15 (v := ?_) rfl (by kernel_rfl) (by kernel_rfl) (by kernel_rfl) (by kernel_rfl) (by rfl) (by kernel_rfl) (fun _ _ _ h => h) (by rfl) (fun w' hw' => ?_) gS ?_
                rotate_left
                focus (go_simp; (try with_reducible rfl); done)
                (try simp only [Act.put, List.getElem_toArray, List.getElem_cons_succ, List.getElem_cons_zero, List.setIfInBounds_toArray, List.set_cons_zero, List.set_cons_succ])
                refine wpAnyG_one 16 (by kernel_rfl) rfl (by rfl) (fun K hK => ?_)
                (try simp only [List.getElem_toArray, List.getElem_cons_succ, List.getElem_cons_zero])
                go_simp
                refine hK.out _ _ (fun h => absurd h (by decide)) ?_
                clear hK K
                (try simp only [Act.put, List.getElem_toArray, List.getElem_cons_succ, List.getElem_cons_zero, List.setIfInBounds_toArray, List.set_cons_zero, List.set_cons_succ])
                refine wpAnyG_done (by kernel_rfl) ?_ _
                have GS := Lib.hid gS
                have WZe : ∃ WZ, WZ = s4 := ⟨_, rfl⟩
                obtain ⟨WZ, hWZ⟩ := WZe
                subst hWZ
                have HXZ := Lib.hid (HX5.out.trans GS.out)
                have HUZ := Lib.hid (HUW5.out _ GS.out)
                have HUW := Lib.hid (fun (w' : World) (h : Ext WZ w') => HUW5.out w' (GS.out.trans h))
                clear gS
                obtain ⟨c00, c01, c02, _, _, _⟩ := HUZ.out
                by_cases l1 : zs.length = 1
                · have HTN := Lib.hid (utrim_no (HV.out _ HXZ.out) HW.out l1)
                  have g1 : decide ((zs.length : Int) < 2) = true := decide_eq_true (by omega)
                  have g1' : (zs.length : Int) < 2 := by omega
                  clear l1
                  go_wp2_with fail
                  refine HTN.out.mono ?_
                  rintro e w6 ⟨rfl, hw6⟩
                  obtain rfl : WZ = w6 := hw6.symm
                  go_wp2
                  go_ret
                  exact ⟨rfl, HXZ.out⟩
                · obtain ⟨n2, hn2⟩ : ∃ n2, n2 = zs.length - 2 := ⟨_, rfl⟩
                  have hlen : (((insL zs).drop 1).take n2).length = n2 := by rw [List.length_take, List.length_drop, insL_length]; omega
                  have hmem : ∀ x ∈ ((insL zs).drop 1).take n2, x ∈ zs := fun x hx => inner_mem hx
                  have h2 := utrim_ok (HV.out _ HXZ.out) HW.out (by omega) hl6
                  unfold GivesTr at h2
                  rw [← hn2] at h2
                  obtain ⟨inn, hinn⟩ : ∃ inn, inn = ((insL zs).drop 1).take n2 := ⟨_, rfl⟩
                  rw [← hinn] at h2 hlen hmem
                  have HTR := Lib.hid h2
                  have HLEN := Lib.hid hlen
                  have HMEM := Lib.hid hmem
                  have hn26 : n2 ≤ 6 := by omega
                  clear h2 hinn hlen hmem hn2 l1
                  go_wp2_with fail
                  refine HTR.out.mono ?_
                  rintro e w6 ⟨TA, tc, rfl, hti, y6⟩
                  have HTI := Lib.hid hti
                  have HY6 := Lib.hid (HXZ.out.trans y6)
                  obtain ⟨c00, c01, c02, _, _, _⟩ := HUW.out _ y6
                  clear hti
                  by_cases l2 : n2 = 0
                  · have g2 : ((n2 : Int) == 0) = true := by rw [l2]; rfl
                    have HL2 := Lib.hid l2
                    clear l2
                    go_wp2
                    go_ret
                    exact ⟨rfl, HY6.out⟩
                  · have g2 : ((n2 : Int) == 0) = false := by rw [beq_eq_false_iff_ne]; omega
                    have hsc2 := uscore_ok (tol := tol) (m := m) (A := TA) (c := tc) (l := inn) (w := w6) (by rw [HLEN.out]; exact HTI.out) (fun x hx => HW.out x (HMEM.out x hx)) (by rw [HLEN.out]; omega) (HX.out _ HY6.out) HUP.out ht0 ht1 (by omega) (by omega)
                    rw [inner_score HMEM.out HAL.out.symm, HLEN.out] at hsc2
                    have HS2 := Lib.hid hsc2
                    clear hsc2
                    go_wp2_with fail
                    refine HS2.out.mono ?_
                    rintro e w7 ⟨rfl, y7⟩
                    go_wp2
                    go_ret
                    exact ⟨by simp, HY6.out.trans y7⟩
              · have hq1 : decide (0 ≤ z1) = false := decide_eq_false (fun h => hu1 (hc1.1 h))
                have hq1' : ¬ 0 ≤ z1 := of_decide_eq_false hq1
                clear hc1 hc2 hu1
                refine wp_region_G (fun w' => Ext W5 w') [16] (by kernel_rfl) ?_
                have gS : Ext W5 W5.drew := (Below.refl _ _).drew
                refine wpAnyG_take 0 (v := ?_) rfl (by kernel_rfl) (by kernel_rfl) (by kernel_rfl) (by kernel_rfl) (by rfl) (by kernel_rfl) (fun _ _ _ h => h) (by rfl) (fun w' hw' => ?_) gS ?_
                rotate_left
                focus (go_simp; (try with_reducible rfl); done)
                (try simp only [Act.put, List.getElem_toArray, List.getElem_cons_succ, List.getElem_cons_zero, List.setIfInBounds_toArray, List.set_cons_zero, List.set_cons_succ])
                refine wpAnyG_take 1 (v := ?_) rfl (by kernel_rfl) (by kernel_rfl) (by kernel_rfl) (by kernel_rfl) (by rfl) (by kernel_rfl) (fun _ _ _ h => h) (by rfl) (fun w' hw' => ?_) gS ?_
                rotate_left
                focus (go_simp; (try with_reducible rfl); done)
                (try simp only [Act.put, List.getElem_toArray, List.getElem_cons_succ, List.getElem_cons_zero, List.setIfInBounds_toArray, List.set_cons_zero, List.set_cons_succ])
                refine wpAnyG_take 2 (v := ?_) rfl (by kernel_rfl) (by kernel_rfl) (by kernel_rfl) (by kernel_rfl) (by rfl) (by kernel_rfl) (fun _ _ _ h => h) (by rfl) (fun w' hw' => ?_) gS ?_
                rotate_left
                focus (go_simp; (try with_reducible rfl); done)
                (try simp only [Act.put, List.getElem_toArray, List.getElem_cons_succ, List.getElem_cons_zero, List.setIfInBounds_toArray, List.set_cons_zero, List.set_cons_succ])
                refine wpAnyG_take 3 (v := ?_) rfl (by kernel_rfl) (by kernel_rfl) (by kernel_rfl) (by kernel_rfl) (by rfl) (by kernel_rfl) (fun _ _ _ h => h) (by rfl) (fun w' hw' => ?_) gS ?_
                rotate_left
                focus (have hh := HS.out _ hw'; go_split_ands; go_simp; (try with_reducible rfl); done)
                (try simp only [Act.put, List.getElem_toArray, List.getElem_cons_succ, List.getElem_cons_zero, List.setIfInBounds_toArray, List.set_cons_zero, List.set_cons_succ])
                refine wpAnyG_one 4 (by kernel_rfl) rfl (by rfl) (fun K hK => ?_)
                go_simp
                go_at_call 12
                refine (fof_n (n := 1) (d := 1) (by omega) (by omega)).mono ?_
                rintro _ s1 ⟨b1, A1, k1, c1, B1, l1, d1, rfl, h1, z1, n1, m1⟩
                rw [one_overU] at h1
                have gS : Ext W5 s1 := Ext.trans gS z1
                (try go_wp2_with fail)
                refine hK.out _ _ (fun _ => gS) ?_
                clear hK K
                (try simp only [Act.put, List.getElem_toArray, List.getElem_cons_succ, List.getElem_cons_zero, List.setIfInBounds_toArray, List.set_cons_zero, List.set_cons_succ])
                refine wpAnyG_one 5 (by kernel_rfl) rfl (by rfl) (fun K hK => ?_)
                go_simp
                go_at_call 9
                refine (cmp_e (HX.out _ (HX5.out.trans gS)) (FracV.any h1 fb_oneU (by omega)) (by omega) HZ1.out).mono ?_
                rintro _ s2 ⟨rfl, z2⟩
                have gS : Ext W5 s2 := Ext.trans gS z2
                (try go_wp2_with fail)
                refine hK.out _ _ (fun _ => gS) ?_
                clear hK K
                (try simp only [Act.put, List.getElem_toArray, List.getElem_cons_succ, List.getElem_cons_zero, List.setIfInBounds_toArray, List.set_cons_zero, List.set_cons_succ])
                refine wpAnyG_take 6 (v := ?_) rfl (by kernel_rfl) (by kernel_rfl) (by kernel_rfl) (by kernel_rfl) (by rfl) (by kernel_rfl) (fun _ _ _ h => h) (by rfl) (fun w' hw' => ?_) gS ?_
                rotate_left
                focus (go_simp; (try with_reducible rfl); done)
                (try simp only [Act.put, List.getElem_toArray, List.getElem_cons_succ, List.getElem_cons_zero, List.setIfInBounds_toArray, List.set_cons_zero, List.set_cons_succ])
                refine wpAnyG_take 7 (v := ?_) rfl (by kernel_rfl) (by kernel_rfl) (by kernel_rfl) (by kernel_rfl) (by rfl) (by kernel_rfl) (fun _ _ _ h => h) (by rfl) (fun w' hw' => ?_) gS ?_
                rotate_left
                focus (go_simp; (try with_reducible rfl); done)
                (try simp only [Act.put, List.getElem_toArray, List.getElem_cons_succ, List.getElem_cons_zero, List.setIfInBounds_toArray, List.set_cons_zero, List.set_cons_succ])
                refine wpAnyG_skip 8 rfl (by kernel_rfl) (by kernel_rfl) (by kernel_rfl) (by kernel_rfl) (by rfl) (by kernel_rfl) (fun _ _ _ h => h) (by rfl) gS ?_
                (try simp only [Act.put, List.getElem_toArray, List.getElem_cons_succ, List.getElem_cons_zero, List.setIfInBounds_toArray, List.set_cons_zero, List.set_cons_succ])
                refine wpAnyG_skip 9 rfl (by kernel_rfl) (by kernel_rfl) (by kernel_rfl) (by kernel_rfl) (by rfl) (by kernel_rfl) (fun _ _ _ h => h) (by rfl) gS ?_
                (try simp only [Act.put, List.getElem_toArray, List.getElem_cons_succ, List.getElem_cons_zero, List.setIfInBounds_toArray, List.set_cons_zero, List.set_cons_succ])
                refine wpAnyG_skip 10 rfl (by kernel_rfl) (by kernel_rfl) (by kernel_rfl) (by kernel_rfl) (by rfl) (by kernel_rfl) (fun _ _ _ h => h) (by rfl) gS ?_
                (try simp only [Act.put, List.getElem_toArray, List.getElem_cons_succ, List.getElem_cons_zero, List.setIfInBounds_toArray, List.set_cons_zero, List.set_cons_succ])
                refine wpAnyG_skip 11 rfl (by kernel_rfl) (by kernel_rfl) (by kernel_rfl) (by kernel_rfl) (by rfl) (by kernel_rfl) (fun _ _ _ h => h) (by rfl) gS ?_
                (try simp only [Act.put, List.getElem_toArray, List.getElem_cons_succ, List.getElem_cons_zero, List.setIfInBounds_toArray, List.set_cons_zero, List.set_cons_succ])
                refine wpAnyG_skip 12 rfl (by kernel_rfl) (by kernel_rfl) (by kernel_rfl) (by kernel_rfl) (by rfl) (by kernel_rfl) (fun _ _ _ h => h) (by rfl) gS ?_
                (try simp only [Act.put, List.getElem_toArray, List.getElem_cons_succ, List.getElem_cons_zero, List.setIfInBounds_toArray, List.set_cons_zero, List.set_cons_succ])
                refine wpAnyG_skip 13 rfl (by kernel_rfl) (by kernel_rfl) (by kernel_rfl) (by kernel_rfl) (by rfl) (by kernel_rfl) (fun _ _ _ h => h) (by rfl) gS ?_
                (try simp only [Act.put, List.getElem_toArray, List.getElem_cons_succ, List.getElem_cons_zero, List.setIfInBounds_toArray, List.set_cons_zero, List.set_cons_succ])
                refine wpAnyG_skip 14 rfl (by kernel_rfl) (by kernel_rfl) (by kernel_rfl) (by kernel_rfl) (by rfl) (by kernel_rfl) (fun _ _ _ h => h) (by rfl) gS ?_
                (try simp only [Act.put, List.getElem_toArray, List.getElem_cons_succ, List.getElem_cons_zero, List.setIfInBounds_toArray, List.set_cons_zero, List.set_cons_succ])
                refine wpAnyG_take 15 (v := ?_) rfl (by kernel_rfl) (by kernel_rfl) (by kernel_rfl) (by kernel_rfl) (by rfl) (by kernel_rfl) (fun _ _ _ h => h) (by rfl) (fun w' hw' => ?_) gS ?_
                rotate_left
                focus (go_simp; (try with_reducible rfl); done)
                (try simp only [Act.put, List.getElem_toArray, List.getElem_cons_succ, List.getElem_cons_zero, List.setIfInBounds_toArray, List.set_cons_zero, List.set_cons_succ])
                refine wpAnyG_one 16 (by kernel_rfl) rfl (by rfl) (fun K hK => ?_)
                (try simp only [List.getElem_toArray, List.getElem_cons_succ, List.getElem_cons_zero])
                go_simp
                refine hK.out _ _ (fun h => absurd h (by decide)) ?_
                clear hK K
                (try simp only [Act.put, List.getElem_toArray, List.getElem_cons_succ, List.getElem_cons_zero, List.setIfInBounds_toArray, List.set_cons_zero, List.set_cons_succ])
                refine wpAnyG_done (by kernel_rfl) ?_ _
                have GS := Lib.hid gS
                have WZe : ∃ WZ, WZ = s2 := ⟨_, rfl⟩
                obtain ⟨WZ, hWZ⟩ := WZe
                subst hWZ
                have HXZ := Lib.hid (HX5.out.trans GS.out)
                have HUZ := Lib.hid (HUW5.out _ GS.out)
                have HUW := Lib.hid (fun (w' : World) (h : Ext WZ w') => HUW5.out w' (GS.out.trans h))
                clear gS
                obtain ⟨c00, c01, c02, _, _, _⟩ := HUZ.out
                by_cases l1 : zs.length = 1
                · have HTN := Lib.hid (utrim_no (HV.out _ HXZ.out) HW.out l1)
                  have g1 : decide ((zs.length : Int) < 2) = true := decide_eq_true (by omega)
                  have g1' : (zs.length : Int) < 2 := by omega
                  clear l1
                  go_wp2_with fail
                  refine HTN.out.mono ?_
                  rintro e w6 ⟨rfl, hw6⟩
                  obtain rfl : WZ = w6 := hw6.symm
                  go_wp2
                  go_ret
                  exact ⟨rfl, HXZ.out⟩
                · obtain ⟨n2, hn2⟩ : ∃ n2, n2 = zs.length - 2 := ⟨_, rfl⟩
                  have hlen : (((insL zs).drop 1).take n2).length = n2 := by rw [List.length_take, List.length_drop, insL_length]; omega
                  have hmem : ∀ x ∈ ((insL zs).drop 1).take n2, x ∈ zs := fun x hx => inner_mem hx
                  have h2 := utrim_ok (HV.out _ HXZ.out) HW.out (by omega) hl6
                  unfold GivesTr at h2
                  rw [← hn2] at h2
                  obtain ⟨inn, hinn⟩ : ∃ inn, inn = ((insL zs).drop 1).take n2 := ⟨_, rfl⟩
                  rw [← hinn] at h2 hlen hmem
                  have HTR := Lib.hid h2
                  have HLEN := Lib.hid hlen
                  have HMEM := Lib.hid hmem
                  have hn26 : n2 ≤ 6 := by omega
                  clear h2 hinn hlen hmem hn2 l1
                  go_wp2_with fail
                  refine HTR.out.mono ?_
                  rintro e w6 ⟨TA, tc, rfl, hti, y6⟩
                  have HTI := Lib.hid hti
                  have HY6 := Lib.hid (HXZ.out.trans y6)
                  obtain ⟨c00, c01, c02, _, _, _⟩ := HUW.out _ y6
                  clear hti
                  by_cases l2 : n2 = 0
                  · have g2 : ((n2 : Int) == 0) = true := by rw [l2]; rfl
                    have HL2 := Lib.hid l2
                    clear l2
                    go_wp2
                    go_ret
                    exact ⟨rfl, HY6.out⟩
                  · have g2 : ((n2 : Int) == 0) = false := by rw [beq_eq_false_iff_ne]; omega
                    have hsc2 := uscore_ok (tol := tol) (m := m) (A := TA) (c := tc) (l := inn) (w := w6) (by rw [HLEN.out]; exact HTI.out) (fun x hx => HW.out x (HMEM.out x hx)) (by rw [HLEN.out]; omega) (HX.out _ HY6.out) HUP.out ht0 ht1 (by omega) (by omega)
                    rw [inner_score HMEM.out HAL.out.symm, HLEN.out] at hsc2
                    have HS2 := Lib.hid hsc2
                    clear hsc2
                    go_wp2_with fail
                    refine HS2.out.mono ?_
                    rintro e w7 ⟨rfl, y7⟩
                    go_wp2
                    go_ret
                    exact ⟨by simp, HY6.out.trans y7⟩
            | false =>
              have HSA2 := HSA.out
              have gsc : ((sc : Int) == (zs.length : Int)) = false := by rw [beq_eq_false_iff_ne]; intro h; exact absurd (HSA2.1 (by omega)) (by decide)
              have HSA3 := Lib.hid HSA2
              clear HSA HSA2
              obtain ⟨c00, c01, c02, _, _, _⟩ := HUB3.out _ hx
              go_wp2_with fail
              refine (HER.out _ (HX3.out.trans hx)).mono ?_
              rintro e w5 ⟨b5, A5, k5, c5, A5', k5', c5', rfl, h5, y5, n5, n5'⟩
              clear n5 n5' c00 c01 c02
              go_upto_region 22 with (fail)
              have hG5 := FBox.new w5 (.bool b5) (.slice A5 k5 c5) (.slice A5' k5' c5') 27
              have Y5 : Ext wr (w5.alloc (.cells #[.bool b5, .slice A5 k5 c5, .slice A5' k5' c5'] 27)) := ext_alloc y5 _
              have h5 := h5.below (ext_alloc (Below.refl _ _) (.cells #[.bool b5, .slice A5 k5 c5, .slice A5' k5' c5'] 27))
              have hsz5 : w5.heap.size < (w5.alloc (.cells #[.bool b5, .slice A5 k5 c5, .slice A5' k5' c5'] 27)).heap.size := by simp
              generalize w5.alloc (.cells #[.bool b5, .slice A5 k5 c5, .slice A5' k5' c5'] 27) = W5 at *
              generalize w5.heap.size = B5 at *
              have HX5 := Lib.hid (HX3.out.trans (hx.trans Y5))
              have HUW5 := Lib.hid (fun (w' : World) (h : Ext W5 w') => HUB3.out w' (hx.trans (Y5.trans h)))
              have HV5 := Lib.hid (fun (w' : World) (h : Ext W5 w') => FracV.any (h5.below h) HEF.out (by omega))
              have HFT := Lib.hid (fb_i64 (n := tol) (d := 1) (by omega) (by omega))
              have HS := Lib.hid (fun (w' : World) (h : Ext W5 w') => (⟨⟨(HUW5.out _ h).1, (HUW5.out _ h).2.1, (HUW5.out _ h).2.2.1⟩, (hG5.below h).1, (hG5.below h).2.1, (hG5.below h).2.2.1⟩ : (w'.cell? ⟨w.heap.size, 0, none⟩ = some (.bool ng) ∧ w'.cell? ⟨w.heap.size, 1, none⟩ = some (.slice A nl c) ∧ w'.cell? ⟨w.heap.size, 2, none⟩ = some (.slice A' dl c')) ∧ w'.cell? ⟨B5, 0, none⟩ = some (.bool b5) ∧ w'.cell? ⟨B5, 1, none⟩ = some (.slice A5 k5 c5) ∧ w'.cell? ⟨B5, 2, none⟩ = some (.slice A5' k5' c5')))
              obtain ⟨z1, hz1⟩ : ∃ z, z = cmpQ u 1 := ⟨_, rfl⟩
              obtain ⟨z2, hz2⟩ : ∃ z, z = cmpQ (errTo u m zs) (((tol : Int) : Rat) / ((1 : Int) : Rat)) := ⟨_, rfl⟩
              have hc1 : 0 ≤ z1 ↔ 1 ≤ u := by rw [hz1]; exact cmp_ge
              have hc2 : z2 ≤ 0 ↔ errTo u m zs ≤ (tol : Rat) := by rw [hz2, over_one]; exact cmp_le
              have HZ1 := Lib.hid hz1.symm
              have HZ2 := Lib.hid hz2.symm
              clear hz1 hz2 hG5 h5 y5 hsz5 gsc
              by_cases hu1 : 1 ≤ u
              · have hq1 : decide (0 ≤ z1) = true := decide_eq_true (hc1.2 hu1)
                have hq1' : 0 ≤ z1 := hc1.2 hu1
                have hea := HEA.out hu1
                have hq2 : decide (z2 ≤ 0) = false := by exact decide_eq_false (fun h => absurd (hea.1 (hc2.1 h)) (by decide))
                have hq2' : ¬ z2 ≤ 0 := of_decide_eq_false hq2
                clear hc1 hc2 hea hu1
                refine wp_region_G (fun w' => Ext W5 w') [16] (by kernel_rfl) ?_
                have gS : Ext W5 W5.drew := (Below.refl _ _).drew
                refine wpAnyG_take 0 (v := ?_) rfl (by kernel_rfl) (by kernel_rfl) (by kernel_rfl) (by kernel_rfl) (by rfl) (by kernel_rfl) (fun _ _ _ h => h) (by rfl) (fun w' hw' => ?_) gS ?_
                rotate_left
                focus (go_simp; (try with_reducible rfl); done)
                (try simp only [Act.put, List.getElem_toArray, List.getElem_cons_succ, List.getElem_cons_zero, List.setIfInBounds_toArray, List.set_cons_zero, List.set_cons_succ])
                refine wpAnyG_take 1 (v := ?_) rfl (by kernel_rfl) (by kernel_rfl) (by kernel_rfl) (by kernel_rfl) (by rfl) (by kernel_rfl) (fun _ _ _ h => h) (by rfl) (fun w' hw' => ?_) gS ?_
                rotate_left
                focus (go_simp; (try with_reducible rfl); done)
                (try simp only [Act.put, List.getElem_toArray, List.getElem_cons_succ, List.getElem_cons_zero, List.setIfInBounds_toArray, List.set_cons_zero, List.set_cons_succ])
                refine wpAnyG_take 2 (v := ?_) rfl (by kernel_rfl) (by kernel_rfl) (by kernel_rfl) (by kernel_rfl) (by rfl) (by kernel_rfl) (fun _ _ _ h => h) (by rfl) (fun w' hw' => ?_) gS ?_
                rotate_left
                focus (go_simp; (try with_reducible rfl); done)
                (try simp only [Act.put, List.getElem_toArray, List.getElem_cons_succ, List.getElem_cons_zero, List.setIfInBounds_toArray, List.set_cons_zero, List.set_cons_succ])
                refine wpAnyG_take 3 (v := ?_) rfl (by kernel_rfl) (by kernel_rfl) (by kernel_rfl) (by kernel_rfl) (by rfl) (by kernel_rfl) (fun _ _ _ h => h) (by rfl) (fun w' hw' => ?_) gS ?_
                rotate_left
                focus (have hh := HS.out _ hw'; go_split_ands; go_simp; (try with_reducible rfl); done)
                (try simp only [Act.put, List.getElem_toArray, List.getElem_cons_succ, List.getElem_cons_zero, List.setIfInBounds_toArray, List.set_cons_zero, List.set_cons_succ])
                refine wpAnyG_one 4 (by kernel_rfl) rfl (by rfl) (fun K hK => ?_)
                go_simp
                go_at_call 12
                refine (fof_n (n := 1) (d := 1) (by omega) (by omega)).mono ?_
                rintro _ s1 ⟨b1, A1, k1, c1, B1, l1, d1, rfl, h1, z1, n1, m1⟩
                rw [one_overU] at h1
                have gS : Ext W5 s1 := Ext.trans gS z1
                (try go_wp2_with fail)
                refine hK.out _ _ (fun _ => gS) ?_
                clear hK K
                (try simp only [Act.put, List.getElem_toArray, List.getElem_cons_succ, List.getElem_cons_zero, List.setIfInBounds_toArray, List.set_cons_zero, List.set_cons_succ])
                refine wpAnyG_one 5 (by kernel_rfl) rfl (by rfl) (fun K hK => ?_)
                go_simp
                go_at_call 9
                refine (cmp_e (HX.out _ (HX5.out.trans gS)) (FracV.any h1 fb_oneU (by omega)) (by omega) HZ1.out).mono ?_
                rintro _ s2 ⟨rfl, z2⟩
                have gS : Ext W5 s2 := Ext.trans gS z2
                (try go_wp2_with fail)
                refine hK.out _ _ (fun _ => gS) ?_
                clear hK K
                (try simp only [Act.put, List.getElem_toArray, List.getElem_cons_succ, List.getElem_cons_zero, List.setIfInBounds_toArray, List.set_cons_zero, List.set_cons_succ])
                refine wpAnyG_take 6 (v := ?_) rfl (by kernel_rfl) (by kernel_rfl) (by kernel_rfl) (by kernel_rfl) (by rfl) (by kernel_rfl) (fun _ _ _ h => h) (by rfl) (fun w' hw' => ?_) gS ?_
                rotate_left
                focus (go_simp; (try with_reducible rfl); done)
                (try simp only [Act.put, List.getElem_toArray, List.getElem_cons_succ, List.getElem_cons_zero, List.setIfInBounds_toArray, List.set_cons_zero, List.set_cons_succ])
                refine wpAnyG_take 7 (v := ?_) rfl (by kernel_rfl) (by kernel_rfl) (by kernel_rfl) (by kernel_rfl) (by rfl) (by kernel_rfl) (fun _ _ _ h => h) (by rfl) (fun w' hw' => ?_) gS ?_
                rotate_left
                focus (go_simp; (try with_reducible rfl); done)
                (try simp only [Act.put, List.getElem_toArray, List.getElem_cons_succ, List.getElem_cons_zero, List.setIfInBounds_toArray, List.set_cons_zero, List.set_cons_succ])
                refine wpAnyG_take 8 (v := ?_) rfl (by kernel_rfl) (by kernel_rfl) (by kernel_rfl) (by kernel_rfl) (by rfl) (by kernel_rfl) (fun _ _ _ h => h) (by rfl) (fun w' hw' => ?_) gS ?_
                rotate_left
                focus (go_simp; (try with_reducible rfl); done)
                (try simp only [Act.put, List.getElem_toArray, List.getElem_cons_succ, List.getElem_cons_zero, List.setIfInBounds_toArray, List.set_cons_zero, List.set_cons_succ])
                refine wpAnyG_take 9 (v := ?_) rfl (by kernel_rfl) (by kernel_rfl) (by kernel_rfl) (by kernel_rfl) (by rfl) (by kernel_rfl) (fun _ _ _ h => h) (by rfl) (fun w' hw' => ?_) gS ?_
                rotate_left
                focus (have hh := HS.out _ hw'; go_split_ands; go_simp; (try with_reducible rfl); done)
                (try simp only [Act.put, List.getElem_toArray, List.getElem_cons_succ, List.getElem_cons_zero, List.setIfInBounds_toArray, List.set_cons_zero, List.set_cons_succ])
                refine wpAnyG_take 10 (v := ?_) rfl (by kernel_rfl) (by kernel_rfl) (by kernel_rfl) (by kernel_rfl) (by rfl) (by kernel_rfl) (fun _ _ _ h => h) (by rfl) (fun w' hw' => ?_) gS ?_
                rotate_left
                focus (go_simp; (try with_reducible rfl); done)
                (try simp only [Act.put, List.getElem_toArray, List.getElem_cons_succ, List.getElem_cons_zero, List.setIfInBounds_toArray, List.set_cons_zero, List.set_cons_succ])
                refine wpAnyG_one 11 (by kernel_rfl) rfl (by rfl) (fun K hK => ?_)
                (try simp only [List.getElem_toArray, List.getElem_cons_succ, List.getElem_cons_zero])
                go_simp
                go_at_call 12
                refine (fof_n (n := tol) (d := 1) (by omega) (by omega)).mono ?_
                rintro _ s3 ⟨b3, A3, k3, c3, B3, l3, d3, rfl, h3, z3, n3, m3⟩
                have gS : Ext W5 s3 := Ext.trans gS z3
                (try go_wp2_with fail)
                refine hK.out _ _ (fun _ => gS) ?_
                clear hK K
                (try simp only [Act.put, List.getElem_toArray, List.getElem_cons_succ, List.getElem_cons_zero, List.setIfInBounds_toArray, List.set_cons_zero, List.set_cons_succ])
                refine wpAnyG_one 12 (by kernel_rfl) rfl (by rfl) (fun K hK => ?_)
                (try simp only [List.getElem_toArray, List.getElem_cons_succ, List.getElem_cons_zero])
                go_simp
                go_at_call 9
                refine (cmp_e (HV5.out _ gS) (FracV.any h3 HFT.out (by omega)) (by omega) HZ2.out).mono ?_
                rintro _ s4 ⟨rfl, z4⟩
                have gS : Ext W5 s4 := Ext.trans gS z4
                (try go_wp2_with fail)
                refine hK.out _ _ (fun _ => gS) ?_
                clear hK K
                (try simp only [Act.put, List.getElem_toArray, List.getElem_cons_succ, List.getElem_cons_zero, List.setIfInBounds_toArray, List.set_cons_zero, List.set_cons_succ])
                refine wpAnyG_take 13 (v := ?_) rfl (by kernel_rfl) (by kernel_rfl) (by kernel_rfl) (by kernel_rfl) (by rfl) (by kernel_rfl) (fun _ _ _ h => h) (by rfl) (fun w' hw' => ?_) gS ?_
                rotate_left
                focus (go_simp; (try with_reducible rfl); done)
                (try simp only [Act.put, List.getElem_toArray, List.getElem_cons_succ, List.getElem_cons_zero, List.setIfInBounds_toArray, List.set_cons_zero, List.set_cons_succ])
                refine wpAnyG_take 14 (v := ?_) rfl (by kernel_rfl) (by kernel_rfl) (by kernel_rfl) (by kernel_rfl) (by rfl) (by kernel_rfl) (fun _ _ _ h => h) (by rfl) (fun w' hw' => ?_) gS ?_
                rotate_left
                focus (go_simp; (try with_reducible rfl); done)
                (try simp only [Act.put, List.getElem_toArray, List.getElem_cons_succ, List.getElem_cons_zero, List.setIfInBounds_toArray, List.set_cons_zero, List.set_cons_succ])
                refine wpAnyG_take 15 (v := ?_) rfl (by kernel_rfl) (by kernel_rfl) (by kernel_rfl) (by kernel_rfl) (by rfl) (by kernel_rfl) (fun _ _ _ h => h) (by rfl) (fun w' hw' => ?_) gS ?_
                rotate_left
                focus (go_simp; (try with_reducible rfl); done)
                (try simp only [Act.put, List.getElem_toArray, List.getElem_cons_succ, List.getElem_cons_zero, List.setIfInBounds_toArray, List.set_cons_zero, List.set_cons_succ])
                refine wpAnyG_one 16 (by kernel_rfl) rfl (by rfl) (fun K hK => ?_)
                (try simp only [List.getElem_toArray, List.getElem_cons_succ, List.getElem_cons_zero])
                go_simp
                refine hK.out _ _ (fun h => absurd h (by decide)) ?_
                clear hK K
                (try simp only [Act.put, List.getElem_toArray, List.getElem_cons_succ, List.getElem_cons_zero, List.setIfInBounds_toArray, List.set_cons_zero, List.set_cons_succ])
                refine wpAnyG_done (by kernel_rfl) ?_ _
                have GS := Lib.hid gS
                have WZe : ∃ WZ, WZ = s4 := ⟨_, rfl⟩
                obtain ⟨WZ, hWZ⟩ := WZe
                subst hWZ
                have HXZ := Lib.hid (HX5.out.trans GS.out)
                have HUZ := Lib.hid (HUW5.out _ GS.out)
                have HUW := Lib.hid (fun (w' : World) (h : Ext WZ w') => HUW5.out w' (GS.out.trans h))
                clear gS
                obtain ⟨c00, c01, c02, _, _, _⟩ := HUZ.out
                by_cases l1 : zs.length = 1
                · have HTN := Lib.hid (utrim_no (HV.out _ HXZ.out) HW.out l1)
                  have g1 : decide ((zs.length : Int) < 2) = true := decide_eq_true (by omega)
                  have g1' : (zs.length : Int) < 2 := by omega
                  clear l1
                  go_wp2_with fail
                  refine HTN.out.mono ?_
                  rintro e w6 ⟨rfl, hw6⟩
                  obtain rfl : WZ = w6 := hw6.symm
                  go_wp2
                  go_ret
                  exact ⟨rfl, HXZ.out⟩
                · obtain ⟨n2, hn2⟩ : ∃ n2, n2 = zs.length - 2 := ⟨_, rfl⟩
                  have hlen : (((insL zs).drop 1).take n2).length = n2 := by rw [List.length_take, List.length_drop, insL_length]; omega
                  have hmem : ∀ x ∈ ((insL zs).drop 1).take n2, x ∈ zs := fun x hx => inner_mem hx
                  have h2 := utrim_ok (HV.out _ HXZ.out) HW.out (by omega) hl6
                  unfold GivesTr at h2
                  rw [← hn2] at h2
                  obtain ⟨inn, hinn⟩ : ∃ inn, inn = ((insL zs).drop 1).take n2 := ⟨_, rfl⟩
                  rw [← hinn] at h2 hlen hmem
                  have HTR := Lib.hid h2
                  have HLEN := Lib.hid hlen
                  have HMEM := Lib.hid hmem
                  have hn26 : n2 ≤ 6 := by omega
                  clear h2 hinn hlen hmem hn2 l1
                  go_wp2_with fail
                  refine HTR.out.mono ?_
                  rintro e w6 ⟨TA, tc, rfl, hti, y6⟩
                  have HTI := Lib.hid hti
                  have HY6 := Lib.hid (HXZ.out.trans y6)
                  obtain ⟨c00, c01, c02, _, _, _⟩ := HUW.out _ y6
                  clear hti
                  by_cases l2 : n2 = 0
                  · have g2 : ((n2 : Int) == 0) = true := by rw [l2]; rfl
                    have HL2 := Lib.hid l2
                    clear l2
                    go_wp2
                    go_ret
                    exact ⟨rfl, HY6.out⟩
                  · have g2 : ((n2 : Int) == 0) = false := by rw [beq_eq_false_iff_ne]; omega
                    go_wp2
                    go_ret
                    exact ⟨rfl, HY6.out⟩
              · have hq1 : decide (0 ≤ z1) = false := decide_eq_false (fun h => hu1 (hc1.1 h))
                have hq1' : ¬ 0 ≤ z1 := of_decide_eq_false hq1
                clear hc1 hc2 hu1
                refine wp_region_G (fun w' => Ext W5 w') [16] (by kernel_rfl) ?_
                have gS : Ext W5 W5.drew := (Below.refl _ _).drew
                refine wpAnyG_take 0 (v := ?_) rfl (by kernel_rfl) (by kernel_rfl) (by kernel_rfl) (by kernel_rfl) (by rfl) (by kernel_rfl) (fun _ _ _ h => h) (by rfl) (fun w' hw' => ?_) gS ?_
                rotate_left
                focus (go_simp; (try with_reducible rfl); done)
                (try simp only [Act.put, List.getElem_toArray, List.getElem_cons_succ, List.getElem_cons_zero, List.setIfInBounds_toArray, List.set_cons_zero, List.set_cons_succ])
                refine wpAnyG_take 1 (v := ?_) rfl (by kernel_rfl) (by kernel_rfl) (by kernel_rfl) (by kernel_rfl) (by rfl) (by kernel_rfl) (fun _ _ _ h => h) (by rfl) (fun w' hw' => ?_) gS ?_
                rotate_left
                focus (go_simp; (try with_reducible rfl); done)
                (try simp only [Act.put, List.getElem_toArray, List.getElem_cons_succ, List.getElem_cons_zero, List.setIfInBounds_toArray, List.set_cons_zero, List.set_cons_succ])
                refine wpAnyG_take 2 (v := ?_) rfl (by kernel_rfl) (by kernel_rfl) (by kernel_rfl) (by kernel_rfl) (by rfl) (by kernel_rfl) (fun _ _ _ h => h) (by rfl) (fun w' hw' => ?_) gS ?_
                rotate_left
                focus (go_simp; (try with_reducible rfl); done)
                (try simp only [Act.put, List.getElem_toArray, List.getElem_cons_succ, List.getElem_cons_zero, List.setIfInBounds_toArray, List.set_cons_zero, List.set_cons_succ])
                refine wpAnyG_take 3 (v := ?_) rfl (by kernel_rfl) (by kernel_rfl) (by kernel_rfl) (by kernel_rfl) (by rfl) (by kernel_rfl) (fun _ _ _ h => h) (by rfl) (fun w' hw' => ?_) gS ?_
                rotate_left
                focus (have hh := HS.out _ hw'; go_split_ands; go_simp; (try with_reducible rfl); done)
                (try simp only [Act.put, List.getElem_toArray, List.getElem_cons_succ, List.getElem_cons_zero, List.setIfInBounds_toArray, List.set_cons_zero, List.set_cons_succ])
                refine wpAnyG_one 4 (by kernel_rfl) rfl (by rfl) (fun K hK => ?_)
                go_simp
                go_at_call 12
                refine (fof_n (n := 1) (d := 1) (by omega) (by omega)).mono ?_
                rintro _ s1 ⟨b1, A1, k1, c1, B1, l1, d1, rfl, h1, z1, n1, m1⟩
                rw [one_overU] at h1
                have gS : Ext W5 s1 := Ext.trans gS z1
                (try go_wp2_with fail)
                refine hK.out _ _ (fun _ => gS) ?_
                clear hK K
                (try simp only [Act.put, List.getElem_toArray, List.getElem_cons_succ, List.getElem_cons_zero, List.setIfInBounds_toArray, List.set_cons_zero, List.set_cons_succ])
                refine wpAnyG_one 5 (by kernel_rfl) rfl (by rfl) (fun K hK => ?_)
                go_simp
                go_at_call 9
                refine (cmp_e (HX.out _ (HX5.out.trans gS)) (FracV.any h1 fb_oneU (by omega)) (by omega) HZ1.out).mono ?_
                rintro _ s2 ⟨rfl, z2⟩
                have gS : Ext W5 s2 := Ext.trans gS z2
                (try go_wp2_with fail)
                refine hK.out _ _ (fun _ => gS) ?_
                clear hK K
                (try simp only [Act.put, List.getElem_toArray, List.getElem_cons_succ, List.getElem_cons_zero, List.setIfInBounds_toArray, List.set_cons_zero, List.set_cons_succ])
                refine wpAnyG_take 6 (v := ?_) rfl (by kernel_rfl) (by kernel_rfl) (by kernel_rfl) (by kernel_rfl) (by rfl) (by kernel_rfl) (fun _ _ _ h => h) (by rfl) (fun w' hw' => ?_) gS ?_
                rotate_left
                focus (go_simp; (try with_reducible rfl); done)
                (try simp only [Act.put, List.getElem_toArray, List.getElem_cons_succ, List.getElem_cons_zero, List.setIfInBounds_toArray, List.set_cons_zero, List.set_cons_succ])
                refine wpAnyG_take 7 (v := ?_) rfl (by kernel_rfl) (by kernel_rfl) (by kernel_rfl) (by kernel_rfl) (by rfl) (by kernel_rfl) (fun _ _ _ h => h) (by rfl) (fun w' hw' => ?_) gS ?_
                rotate_left
                focus (go_simp; (try with_reducible rfl); done)
                (try simp only [Act.put, List.getElem_toArray, List.getElem_cons_succ, List.getElem_cons_zero, List.setIfInBounds_toArray, List.set_cons_zero, List.set_cons_succ])
                refine wpAnyG_skip 8 rfl (by kernel_rfl) (by kernel_rfl) (by kernel_rfl) (by kernel_rfl) (by rfl) (by kernel_rfl) (fun _ _ _ h => h) (by rfl) gS ?_
                (try simp only [Act.put, List.getElem_toArray, List.getElem_cons_succ, List.getElem_cons_zero, List.setIfInBounds_toArray, List.set_cons_zero, List.set_cons_succ])
                refine wpAnyG_skip 9 rfl (by kernel_rfl) (by kernel_rfl) (by kernel_rfl) (by kernel_rfl) (by rfl) (by kernel_rfl) (fun _ _ _ h => h) (by rfl) gS ?_
                (try simp only [Act.put, List.getElem_toArray, List.getElem_cons_succ, List.getElem_cons_zero, List.setIfInBounds_toArray, List.set_cons_zero, List.set_cons_succ])
                refine wpAnyG_skip 10 rfl (by kernel_rfl) (by kernel_rfl) (by kernel_rfl) (by kernel_rfl) (by rfl) (by kernel_rfl) (fun _ _ _ h => h) (by rfl) gS ?_
                (try simp only [Act.put, List.getElem_toArray, List.getElem_cons_succ, List.getElem_cons_zero, List.setIfInBounds_toArray, List.set_cons_zero, List.set_cons_succ])
                refine wpAnyG_skip 11 rfl (by kernel_rfl) (by kernel_rfl) (by kernel_rfl) (by kernel_rfl) (by rfl) (by kernel_rfl) (fun _ _ _ h => h) (by rfl) gS ?_
                (try simp only [Act.put, List.getElem_toArray, List.getElem_cons_succ, List.getElem_cons_zero, List.setIfInBounds_toArray, List.set_cons_zero, List.set_cons_succ])
                refine wpAnyG_skip 12 rfl (by kernel_rfl) (by kernel_rfl) (by kernel_rfl) (by kernel_rfl) (by rfl) (by kernel_rfl) (fun _ _ _ h => h) (by rfl) gS ?_
                (try simp only [Act.put, List.getElem_toArray, List.getElem_cons_succ, List.getElem_cons_zero, List.setIfInBounds_toArray, List.set_cons_zero, List.set_cons_succ])
                refine wpAnyG_skip 13 rfl (by kernel_rfl) (by kernel_rfl) (by kernel_rfl) (by kernel_rfl) (by rfl) (by kernel_rfl) (fun _ _ _ h => h) (by rfl) gS ?_
                (try simp only [Act.put, List.getElem_toArray, List.getElem_cons_succ, List.getElem_cons_zero, List.setIfInBounds_toArray, List.set_cons_zero, List.set_cons_succ])
                refine wpAnyG_skip 14 rfl (by kernel_rfl) (by kernel_rfl) (by kernel_rfl) (by kernel_rfl) (by rfl) (by kernel_rfl) (fun _ _ _ h => h) (by rfl) gS ?_
                (try simp only [Act.put, List.getElem_toArray, List.getElem_cons_succ, List.getElem_cons_zero, List.setIfInBounds_toArray, List.set_cons_zero, List.set_cons_succ])
                refine wpAnyG_take 15 (v := ?_) rfl (by kernel_rfl) (by kernel_rfl) (by kernel_rfl) (by kernel_rfl) (by rfl) (by kernel_rfl) (fun _ _ _ h => h) (by rfl) (fun w' hw' => ?_) gS ?_
                rotate_left
                focus (go_simp; (try with_reducible rfl); done)
                (try simp only [Act.put, List.getElem_toArray, List.getElem_cons_succ, List.getElem_cons_zero, List.setIfInBounds_toArray, List.set_cons_zero, List.set_cons_succ])
                refine wpAnyG_one 16 (by kernel_rfl) rfl (by rfl) (fun K hK => ?_)
                (try simp only [List.getElem_toArray, List.getElem_cons_succ, List.getElem_cons_zero])
                go_simp
                refine hK.out _ _ (fun h => absurd h (by decide)) ?_
                clear hK K
                (try simp only [Act.put, List.getElem_toArray, List.getElem_cons_succ, List.getElem_cons_zero, List.setIfInBounds_toArray, List.set_cons_zero, List.set_cons_succ])
                refine wpAnyG_done (by kernel_rfl) ?_ _
                have GS := Lib.hid gS
                have WZe : ∃ WZ, WZ = s2 := ⟨_, rfl⟩
                obtain ⟨WZ, hWZ⟩ := WZe
                subst hWZ
                have HXZ := Lib.hid (HX5.out.trans GS.out)
                have HUZ := Lib.hid (HUW5.out _ GS.out)
                have HUW := Lib.hid (fun (w' : World) (h : Ext WZ w') => HUW5.out w' (GS.out.trans h))
                clear gS
                obtain ⟨c00, c01, c02, _, _, _⟩ := HUZ.out
                by_cases l1 : zs.length = 1
                · have HTN := Lib.hid (utrim_no (HV.out _ HXZ.out) HW.out l1)
                  have g1 : decide ((zs.length : Int) < 2) = true := decide_eq_true (by omega)
                  have g1' : (zs.length : Int) < 2 := by omega
                  clear l1
                  go_wp2_with fail
                  refine HTN.out.mono ?_
                  rintro e w6 ⟨rfl, hw6⟩
                  obtain rfl : WZ = w6 := hw6.symm
                  go_wp2
                  go_ret
                  exact ⟨rfl, HXZ.out⟩
                · obtain ⟨n2, hn2⟩ : ∃ n2, n2 = zs.length - 2 := ⟨_, rfl⟩
                  have hlen : (((insL zs).drop 1).take n2).length = n2 := by rw [List.length_take, List.length_drop, insL_length]; omega
                  have hmem : ∀ x ∈ ((insL zs).drop 1).take n2, x ∈ zs := fun x hx => inner_mem hx
                  have h2 := utrim_ok (HV.out _ HXZ.out) HW.out (by omega) hl6
                  unfold GivesTr at h2
                  rw [← hn2] at h2
                  obtain ⟨inn, hinn⟩ : ∃ inn, inn = ((insL zs).drop 1).take n2 := ⟨_, rfl⟩
                  rw [← hinn] at h2 hlen hmem
                  have HTR := Lib.hid h2
                  have HLEN := Lib.hid hlen
                  have HMEM := Lib.hid hmem
                  have hn26 : n2 ≤ 6 := by omega
                  clear h2 hinn hlen hmem hn2 l1
                  go_wp2_with fail
                  refine HTR.out.mono ?_
                  rintro e w6 ⟨TA, tc, rfl, hti, y6⟩
                  have HTI := Lib.hid hti
                  have HY6 := Lib.hid (HXZ.out.trans y6)
                  obtain ⟨c00, c01, c02, _, _, _⟩ := HUW.out _ y6
                  clear hti
                  by_cases l2 : n2 = 0
                  · have g2 : ((n2 : Int) == 0) = true := by rw [l2]; rfl
                    have HL2 := Lib.hid l2
                    clear l2
                    go_wp2
                    go_ret
                    exact ⟨rfl, HY6.out⟩
                  · have g2 : ((n2 : Int) == 0) = false := by rw [beq_eq_false_iff_ne]; omega
                    go_wp2
                    go_ret
                    exact ⟨rfl, HY6.out⟩

end Go.Proofs.YtbplkienkhinmaaGreatDoor
