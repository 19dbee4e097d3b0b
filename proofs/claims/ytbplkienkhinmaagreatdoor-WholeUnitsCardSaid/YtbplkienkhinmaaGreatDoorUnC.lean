/- Units of weight: Common. -/
import Derived.Test.YtbplkienkhinmaaGreatDoorUnM
set_option linter.unusedVariables false
set_option linter.unusedSimpArgs false
set_option maxRecDepth 100000
namespace Go.Proofs.YtbplkienkhinmaaGreatDoor
open Go.RowKit Num

theorem com_fb {P : Rat → Prop} {tol : Int} {m : Nat} : ∀ (ws : List Int) (o : List (Rat × Rat)), (∀ v ∈ ws, AllS P (spansL v tol m)) → AllS P o → AllS P (ws.foldl (fun out v => meetL out (spansL v tol m)) o)
  | [], o, _, ho => ho
  | v :: ws, o, h, ho => com_fb ws _ (fun u hu => h u (List.mem_cons_of_mem _ hu)) (meetL_all ho (h v (List.mem_cons_self ..)))
theorem com_len {tol : Int} {m : Nat} (hm : m ≤ 6) (w : Int) (ws : List Int) (h : ws.length ≤ 4) : (comTo tol m w ws).length ≤ 10000 := by
  have h1 := comTo_length (tol := tol) (m := m) ws (spansL w tol m)
  have h2 : (spansL w tol m).length ≤ m := spansTo_length w tol m m
  have h3 : m ^ ws.length ≤ 6 ^ 4 := by
    have a : m ^ ws.length ≤ 6 ^ ws.length := Nat.pow_le_pow_left hm _
    have b : 6 ^ ws.length ≤ 6 ^ 4 := Nat.pow_le_pow_right (by omega) h
    exact Nat.le_trans a b
  have h4 : (spansL w tol m).length * m ^ ws.length ≤ 6 * 6 ^ 4 := Nat.mul_le_mul (by omega) h3
  unfold comTo
  omega

set_option maxHeartbeats 8000000 in
theorem ucommon_ok {l ws : List Int} {w0 tol : Int} {m : Nat} {A : Option Addr} {c : Nat} {w : World} (hv : IntsV w (.slice A l.length c) l) (hl : l = w0 :: ws) (hw : Wts l) (hl2 : l.length ≤ 6) (h3 : 0 ≤ tol) (h4 : tol ≤ 5000) (h5 : 1 ≤ m) (h6 : m ≤ 6) :
    Calls Tryz.prog 7 #[.slice A l.length c, .int .i64 tol, .int .i64 m] w (GivesSp w (comTo tol m w0 ws)) := by
  have HCH := Lib.hid (fun (w' : World) (h : Ext w w') => ucheck_ok (hv.below h) hw (by omega))
  have HLI := Lib.hid (fun (w' : World) => ulimits_ok (m := m) (w := w') h3 h4 (by omega) (by omega))
  have hln : l.length = ws.length + 1 := by rw [hl]; rfl
  have HV := Lib.hid hv
  have HSP := Lib.hid (fun (v : Int) (hm : v ∈ l) (w' : World) => uspans (w := w') (hw v hm).1 (hw v hm).2 h3 h4 h5 (by omega))
  have HFB := Lib.hid (fun (v : Int) (hm : v ∈ l) => show AllS (fun q => FB q 3) (spansL v tol m) from spansTo_fb (hw v hm).1 (hw v hm).2 h3 h4 (by omega) m (Nat.le_refl _))
  have HLE := Lib.hid (fun (v : Int) => show (spansL v tol m).length ≤ m from spansTo_length v tol m m)
  have HL := Lib.hid hl
  obtain ⟨b, o, rfl, hb, hc0⟩ := ints_pl hv (k := 0) (by omega)
  rw [hl, show (w0 :: ws).getD 0 0 = w0 from rfl] at hc0
  obtain ⟨A', c', e, hc1, hc2⟩ := hv
  injection e with e1 e2 e3
  subst e3
  have hlz : ((l.length : Int) == 0) = false := by rw [beq_eq_false_iff_ne]; omega
  have hlz' : ¬ (l.length = 0) := by omega
  have HLN := Lib.hid hln
  have hg1 : (1 : Int) ≤ (l.length : Int) := by omega
  clear hl hw e1 e2 hln
  have HC0 := Lib.hid (fun (w' : World) (h : Ext w w') => ((h.cell (p := ⟨b, o, none⟩) hb).trans hc0 : w'.cell? ⟨b, o, none⟩ = some (.int .i64 w0)))
  clear hc0
  go_enter Tryz.func7, Tryz.ntmps7
  go_upto_region 6 with (first
    | (go_at_call 19; (with_reducible refine (HCH.out w (Below.refl _ _)).mono ?_); rintro e w1 ⟨rfl, hw1⟩; obtain rfl : w = w1 := hw1.symm)
    | (go_at_call 20; (with_reducible refine (HLI.out w).mono ?_); rintro e w2 ⟨rfl, hw2⟩; obtain rfl : w = w2 := hw2.symm)
    | (go_at_call 18; (with_reducible refine (uor_z (b := w.heap.size) (by simp [go_sem]) (by simp [go_sem])).mono ?_); rintro e w3 ⟨rfl, hw3⟩; subst hw3))
  have hX1 : Ext w (w.alloc (.cells #[.int .i64 0, .int .i64 0] 33)) := ext_alloc (Below.refl _ _) _
  generalize w.alloc (.cells #[.int .i64 0, .int .i64 0] 33) = W1 at *
  have hc := HC0.out _ hX1
  have HX1 := Lib.hid hX1
  have HS0 := Lib.hid (HSP.out w0 (by rw [HL.out]; exact List.mem_cons_self ..) W1)
  go_upto_region 7 with (go_at_call 14; (with_reducible refine HS0.out.mono ?_); rintro e w2 ⟨A2, c2, rfl, hs2, x2⟩)
  have HS2 := Lib.hid hs2
  have hX2 := hX1.trans x2
  clear hc hs2
  by_cases hc9 : c = 1
  · have hws : ws = [] := List.eq_nil_of_length_eq_zero (by have := HLN.out; omega)
    have HWS := Lib.hid hws
    have hl1 : l.length = 1 := by omega
    clear hws
    go_wp2
    go_loopw [9, 40] (fun ov kv wr => ov = .slice A2 (spansL w0 tol m).length c2 ∧ kv = .int .i64 0 ∧ wr = w2) (fun _ _ _ => 0)
    case atStart => exact ⟨rfl, rfl, rfl⟩
    case round =>
      obtain ⟨rfl, rfl, hw9⟩ := hrel
      obtain rfl : w2 = wr := hw9.symm
      go_wp2
      go_ret2
      exact ⟨A2, c2, by rw [HWS.out]; rfl, by rw [HWS.out]; exact HS2.out, hX2⟩
  · have hc8 : ¬ c ≤ 1 := by omega
    have hc7 : 1 ≤ c := by omega
    have hg2 : 1 ≤ l.length := by omega
    have HEL := Lib.hid (fun (k : Nat) (hk : k < ws.length) (w' : World) (h : Ext w w') => show w'.cell? ⟨b, o + 1 + k, none⟩ = some (.int .i64 (ws.getD k 0)) from by
      obtain ⟨b9, o9, e, hb9, hc9⟩ := ints_pl HV.out (k := k + 1) (by have := HLN.out; omega)
      injection e with e
      injection e with e1 e2
      subst e1 e2
      rw [HL.out, show (w0 :: ws).getD (k + 1) 0 = ws.getD k 0 from rfl, show o + (k + 1) = o + 1 + k from by omega] at hc9
      exact (h.cell (p := ⟨b, o + 1 + k, none⟩) hb9).trans hc9)
    have HWL := Lib.hid (show ws.length ≤ 5 from by have := HLN.out; omega)
    have HMEM := Lib.hid (fun (v : Int) (hm : v ∈ ws) => show v ∈ l from by rw [HL.out]; exact List.mem_cons_of_mem _ hm)
    have HW0 := Lib.hid (show w0 ∈ l from by rw [HL.out]; exact List.mem_cons_self ..)
    have hll : l.length - 1 = ws.length := by have := HLN.out; omega
    have HLL := Lib.hid hll
    clear hll
    go_wp2
    rw [HLL.out]
    go_loopw [9, 40] (fun ov kv wr => ∃ k : Nat, k ≤ ws.length ∧ kv = .int .i64 k ∧ Hid (SpansV wr ov (comTo tol m w0 (ws.take k))) ∧ Ext w wr) (fun _ kv _ => ws.length - (intOf kv).toNat)
    case atStart => exact ⟨0, Nat.zero_le _, rfl, Lib.hid (by rw [List.take_zero]; exact HS2.out), hX2⟩
    case round =>
      obtain ⟨k, hk, rfl, hS, hx⟩ := hrel
      by_cases hkn : k < ws.length
      · have hc := HEL.out k hkn _ hx
        obtain ⟨x, hxe⟩ : ∃ x, x = ws.getD k 0 := ⟨_, rfl⟩
        have hxa := getD_atU hkn
        have hxm := getD_memU hkn
        rw [← hxe] at hc hxa hxm
        have HC := Lib.hid (HSP.out x (HMEM.out x hxm) wr)
        have HXF := Lib.hid (HFB.out x (HMEM.out x hxm))
        have HCF := Lib.hid (show AllS (fun q => FB q 3) (comTo tol m w0 (ws.take k)) from com_fb _ _ (fun v hv => HFB.out v (HMEM.out v (List.mem_of_mem_take hv))) (HFB.out w0 HW0.out))
        have HCL := Lib.hid (com_len (tol := tol) (m := m) h6 w0 (ws.take k) (by rw [List.length_take]; have := HWL.out; omega))
        have HNX := Lib.hid (comTo_succ tol m w0 ws hxa)
        have HXL := Lib.hid (show (spansL x tol m).length ≤ 100 from by have := HLE.out x; omega)
        have hi1 : (0 : Int) ≤ (k : Int) := by omega
        have hi2 : (k : Int) < (ws.length : Int) := by omega
        have hwl5 : ws.length ≤ 5 := HWL.out
        clear hxe hxa hxm
        go_wp2_with (first
          | (go_at_call 14; (with_reducible refine HC.out.mono ?_); rintro e w4 ⟨A4, c4, rfl, hs4, x4⟩)
          | (go_at_call 21; (with_reducible refine (umeet (hS.out.ext x4) hs4 HCF.out HXF.out HCL.out HXL.out).mono ?_); rintro e w5 ⟨A5, c5, rfl, hs5, x5⟩))
        go_roundw
        case rel => exact ⟨k + 1, by omega, by go_num, Lib.hid (by rw [HNX.out]; exact hs5), (hx.trans x4).trans x5⟩
        case measure => simp [intOf]; omega
      · obtain rfl : ws.length = k := by omega
        have hnn : ¬ ((ws.length : Int) < (ws.length : Int)) := by omega
        have hS' := hS.out
        rw [List.take_length] at hS'
        obtain ⟨A9, c9, rfl, _, _⟩ := hS'.form
        have HSS := Lib.hid hS'
        clear hS hS'
        go_wp2
        go_ret2
        exact ⟨A9, c9, rfl, HSS.out, hx⟩

theorem ucommon_no {l : List Int} {tol : Int} {m : Nat} {A : Option Addr} {c : Nat} {w : World} (hv : IntsV w (.slice A l.length c) l) (hw : ¬ Wts l) (hl2 : l.length ≤ 6) (h3 : 0 ≤ tol) (h4 : tol ≤ 5000) (h5 : 1 ≤ m) (h6 : m ≤ 6) :
    Calls Tryz.prog 7 #[.slice A l.length c, .int .i64 tol, .int .i64 m] w (fun e w' => e = .returned (.tuple #[.slice none 0 0, .int .i64 1]) ∧ Ext w w') := by
  have HCH := Lib.hid (ucheck_no hv hw (by omega))
  have HLI := Lib.hid (fun (w' : World) => ulimits_ok (m := m) (w := w') h3 h4 (by omega) (by omega))
  clear hw hv
  go_enter Tryz.func7, Tryz.ntmps7
  go_wp2_with (first
    | (go_at_call 19; (with_reducible refine HCH.out.mono ?_); rintro e w1 ⟨rfl, hw1⟩; obtain rfl : w = w1 := hw1.symm)
    | (go_at_call 20; (with_reducible refine (HLI.out w).mono ?_); rintro e w2 ⟨rfl, hw2⟩; obtain rfl : w = w2 := hw2.symm)
    | (go_at_call 18; (with_reducible refine (uor_e (b := w.heap.size) (by simp [go_sem])).mono ?_); rintro e w3 ⟨rfl, hw3⟩; subst hw3))
  go_ret2
  exact ⟨rfl, ext_alloc (Below.refl _ _) _⟩

end Go.Proofs.YtbplkienkhinmaaGreatDoor
