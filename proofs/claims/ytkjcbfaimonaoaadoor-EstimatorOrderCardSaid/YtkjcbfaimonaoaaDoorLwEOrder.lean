/- The walk of EstimatorOrder: all lists. -/
import Derived.Test.YtkjcbfaimonaoaaDoorEOrdA
set_option linter.unusedVariables false
set_option linter.unusedSimpArgs false
set_option maxRecDepth 100000
namespace Go.Proofs.YtkjcbfaimonaoaaDoor
open Go.RowKit Num

theorem wpList_append_none {P : Program} (w : World) {ops : Array Oper} {rest : List Oper} {o : Oper} {a : Act} {Q : Exit → Act → World → Prop} (hgd : o.guard = none) (s x : Operand) (t : TypeId)
    (hop : o.op = .call { callee := .builtin .append, args := #[s, x], argTypes := #[t, t] }) (e : TypeId) (i : TypeInfo) (ht : P.underlying t = some (.slice e)) (hi : P.info? e = some i)
    (ao bo : Option Addr) (n cap c : Nat) (hs : a.eval s = .slice ao n cap) (hx : a.eval x = .slice bo 0 c) (hn : n ≤ cap) (h : wpList P ops Q rest (a.put o.dst (.slice ao n cap)) w) : wpList P ops Q (o :: rest) a w := by
  refine wpList_plain hgd fun K hK' => ?_
  have hrun := run_append_zero (P := P) w t o.type e i ht hi ao bo n cap c hn
  unfold Oper.wp
  simp [execOp, hop, resolve, invoke, builtin, hs, hx, hrun, Result.andThen]
  exact hK' _ _ h
theorem IntsV.nilAt (w : World) (A : Option Addr) (c : Nat) (h : c ≤ 9223372036854775807) : IntsV w (.slice A 0 c) [] := ⟨A, c, rfl, Nat.zero_le _, h, ⟨by simp [i64l], fun h => by simp at h⟩⟩
set_option maxHeartbeats 8000000 in
theorem law_EOrder0 {A : Option Addr} {cc : Nat} {v1 : Value} {w : World} (hI : IntsV w (.slice A 0 cc) []) (ht : Tab10 w) :
    Calls Tryd.prog 8 #[.slice A 0 cc, v1] w (fun e w' => e = .returned (.bool true) ∧ Ext w w') := by
  obtain ⟨i0, hi, hz0, hz1, hz2⟩ := info_parts info_int
  have HI := Lib.hid (fun (w' : World) (h : Ext w w') => hI.below h)
  clear hI hz0 hz1 hz2
  obtain ⟨ab, an, ad, ae, ha⟩ := good_perm (List.Perm.refl ([] : List Int))
  have Ha := Lib.hid ha
  clear ha
  obtain ⟨bb, bn, bd, be, hb⟩ := chao_perm (List.Perm.refl ([] : List Int))
  have Hb := Lib.hid hb
  clear hb
  obtain ⟨cb, cn, cd, ce, hc⟩ := jack_perm (List.Perm.refl ([] : List Int))
  have Hc := Lib.hid hc
  clear hc
  obtain ⟨db, dn, dd, de, hd⟩ := cart_perm (List.Perm.refl ([] : List Int))
  have Hd := Lib.hid hd
  clear hd
  go_enter Tryd.func8, Tryd.ntmps8
  go_upto_region 4 with (first
    | (go_at_call 12; (with_reducible refine (eawake ht).mono ?_); rintro e WZ ⟨rfl, x0⟩)
    | (go_at_call 13; (with_reducible refine (few_t (n := 0) (by omega)).mono ?_); rintro e WZ ⟨rfl, rfl⟩)
    | (at_builtin; refine wpList_append_none _ (by rfl) (.tmp 32) (.tmp 33) 22 (by rfl) 3 i0 Tryd.underlying22 hi _ _ 0 0 cc (by rfl) (by rfl) (Nat.le_refl _) ?_))
  have V0 : Ext (WZ.alloc (.cells #[] 3)) (WZ.alloc (.cells #[] 3)) := Below.refl _ _
  have x0 : Ext w (WZ.alloc (.cells #[] 3)) := ext_alloc x0 _
  generalize WZ.alloc (.cells #[] 3) = WA at *
  go_wp2
  go_loopw [6, 7] (fun iv kv wr => iv = .int .i64 0 ∧ wr = WA) (fun _ _ _ => 0)
  case atStart => exact ⟨rfl, rfl⟩
  case round =>
    obtain ⟨rfl, hwr⟩ := hrel
    obtain rfl : WA = wr := hwr.symm
    clear hwr
    go_wp2_with fail
    refine ((Ha.out _ _ _ (HI.out _ (x0.trans V0)) (IntsV.nilAt _ (some ⟨WZ.heap.size, 0, none⟩) 0 (by omega))).1).mono ?_
    rintro e w1 ⟨A1, k1, c1, A1', k1', c1', rfl, p1, q1, y1, n1, n1'⟩
    clear n1 n1'
    go_upto_region 10 with (fail)
    have hG1 := FBox.new w1 (.bool ab) (.slice A1 k1 c1) (.slice A1' k1' c1') 32
    have Y1 : Ext WA (w1.alloc (.cells #[.bool ab, .slice A1 k1 c1, .slice A1' k1' c1'] 32)) := ext_alloc y1 _
    have p1 := p1.below (ext_alloc (Below.refl _ _) (.cells #[.bool ab, .slice A1 k1 c1, .slice A1' k1' c1'] 32))
    have q1 := q1.below (ext_alloc (Below.refl _ _) (.cells #[.bool ab, .slice A1 k1 c1, .slice A1' k1' c1'] 32))
    have hsz1 : w1.heap.size < (w1.alloc (.cells #[.bool ab, .slice A1 k1 c1, .slice A1' k1' c1'] 32)).heap.size := by simp
    generalize w1.alloc (.cells #[.bool ab, .slice A1 k1 c1, .slice A1' k1' c1'] 32) = W1 at *
    generalize w1.heap.size = B1 at *
    have HG1 := Lib.hid (fun (w' : World) (h : Ext W1 w') => hG1.below h)
    have HP1 := Lib.hid (fun (w' : World) (h : Ext W1 w') => (⟨p1.below h, q1.below h⟩ : CanV w' (.slice A1 k1 c1) an ∧ CanV w' (.slice A1' k1' c1') ad))
    have V1 := V0.trans Y1
    clear hG1 p1 q1 y1 hsz1
    go_wp2_with fail
    refine ((Ha.out _ _ _ (HI.out _ (x0.trans V1)) (IntsV.nilAt _ (some ⟨WZ.heap.size, 0, none⟩) 0 (by omega))).2).mono ?_
    rintro e w2 ⟨A2, k2, c2, A2', k2', c2', rfl, p2, q2, y2, n2, n2'⟩
    clear n2 n2'
    go_upto_region 11 with (fail)
    have hG2 := FBox.new w2 (.bool ab) (.slice A2 k2 c2) (.slice A2' k2' c2') 32
    have Y2 : Ext W1 (w2.alloc (.cells #[.bool ab, .slice A2 k2 c2, .slice A2' k2' c2'] 32)) := ext_alloc y2 _
    have p2 := p2.below (ext_alloc (Below.refl _ _) (.cells #[.bool ab, .slice A2 k2 c2, .slice A2' k2' c2'] 32))
    have q2 := q2.below (ext_alloc (Below.refl _ _) (.cells #[.bool ab, .slice A2 k2 c2, .slice A2' k2' c2'] 32))
    have hsz2 : w2.heap.size < (w2.alloc (.cells #[.bool ab, .slice A2 k2 c2, .slice A2' k2' c2'] 32)).heap.size := by simp
    generalize w2.alloc (.cells #[.bool ab, .slice A2 k2 c2, .slice A2' k2' c2'] 32) = W2 at *
    generalize w2.heap.size = B2 at *
    have HG2 := Lib.hid (fun (w' : World) (h : Ext W2 w') => hG2.below h)
    have HP2 := Lib.hid (fun (w' : World) (h : Ext W2 w') => (⟨p2.below h, q2.below h⟩ : CanV w' (.slice A2 k2 c2) an ∧ CanV w' (.slice A2' k2' c2') ad))
    have V2 := V1.trans Y2
    clear hG2 p2 q2 y2 hsz2
    go_wp2_with fail
    refine ((Hb.out _ _ _ (HI.out _ (x0.trans V2)) (IntsV.nilAt _ (some ⟨WZ.heap.size, 0, none⟩) 0 (by omega))).1).mono ?_
    rintro e w3 ⟨A3, k3, c3, A3', k3', c3', rfl, p3, q3, y3, n3, n3'⟩
    clear n3 n3'
    go_upto_region 12 with (fail)
    have hG3 := FBox.new w3 (.bool bb) (.slice A3 k3 c3) (.slice A3' k3' c3') 32
    have Y3 : Ext W2 (w3.alloc (.cells #[.bool bb, .slice A3 k3 c3, .slice A3' k3' c3'] 32)) := ext_alloc y3 _
    have p3 := p3.below (ext_alloc (Below.refl _ _) (.cells #[.bool bb, .slice A3 k3 c3, .slice A3' k3' c3'] 32))
    have q3 := q3.below (ext_alloc (Below.refl _ _) (.cells #[.bool bb, .slice A3 k3 c3, .slice A3' k3' c3'] 32))
    have hsz3 : w3.heap.size < (w3.alloc (.cells #[.bool bb, .slice A3 k3 c3, .slice A3' k3' c3'] 32)).heap.size := by simp
    generalize w3.alloc (.cells #[.bool bb, .slice A3 k3 c3, .slice A3' k3' c3'] 32) = W3 at *
    generalize w3.heap.size = B3 at *
    have HG3 := Lib.hid (fun (w' : World) (h : Ext W3 w') => hG3.below h)
    have HP3 := Lib.hid (fun (w' : World) (h : Ext W3 w') => (⟨p3.below h, q3.below h⟩ : CanV w' (.slice A3 k3 c3) bn ∧ CanV w' (.slice A3' k3' c3') bd))
    have V3 := V2.trans Y3
    clear hG3 p3 q3 y3 hsz3
    go_wp2_with fail
    refine ((Hb.out _ _ _ (HI.out _ (x0.trans V3)) (IntsV.nilAt _ (some ⟨WZ.heap.size, 0, none⟩) 0 (by omega))).2).mono ?_
    rintro e w4 ⟨A4, k4, c4, A4', k4', c4', rfl, p4, q4, y4, n4, n4'⟩
    clear n4 n4'
    go_upto_region 13 with (fail)
    have hG4 := FBox.new w4 (.bool bb) (.slice A4 k4 c4) (.slice A4' k4' c4') 32
    have Y4 : Ext W3 (w4.alloc (.cells #[.bool bb, .slice A4 k4 c4, .slice A4' k4' c4'] 32)) := ext_alloc y4 _
    have p4 := p4.below (ext_alloc (Below.refl _ _) (.cells #[.bool bb, .slice A4 k4 c4, .slice A4' k4' c4'] 32))
    have q4 := q4.below (ext_alloc (Below.refl _ _) (.cells #[.bool bb, .slice A4 k4 c4, .slice A4' k4' c4'] 32))
    have hsz4 : w4.heap.size < (w4.alloc (.cells #[.bool bb, .slice A4 k4 c4, .slice A4' k4' c4'] 32)).heap.size := by simp
    generalize w4.alloc (.cells #[.bool bb, .slice A4 k4 c4, .slice A4' k4' c4'] 32) = W4 at *
    generalize w4.heap.size = B4 at *
    have HG4 := Lib.hid (fun (w' : World) (h : Ext W4 w') => hG4.below h)
    have HP4 := Lib.hid (fun (w' : World) (h : Ext W4 w') => (⟨p4.below h, q4.below h⟩ : CanV w' (.slice A4 k4 c4) bn ∧ CanV w' (.slice A4' k4' c4') bd))
    have V4 := V3.trans Y4
    clear hG4 p4 q4 y4 hsz4
    go_wp2_with fail
    refine ((Hc.out _ _ _ (HI.out _ (x0.trans V4)) (IntsV.nilAt _ (some ⟨WZ.heap.size, 0, none⟩) 0 (by omega))).1).mono ?_
    rintro e w5 ⟨A5, k5, c5, A5', k5', c5', rfl, p5, q5, y5, n5, n5'⟩
    clear n5 n5'
    go_upto_region 14 with (fail)
    have hG5 := FBox.new w5 (.bool cb) (.slice A5 k5 c5) (.slice A5' k5' c5') 32
    have Y5 : Ext W4 (w5.alloc (.cells #[.bool cb, .slice A5 k5 c5, .slice A5' k5' c5'] 32)) := ext_alloc y5 _
    have p5 := p5.below (ext_alloc (Below.refl _ _) (.cells #[.bool cb, .slice A5 k5 c5, .slice A5' k5' c5'] 32))
    have q5 := q5.below (ext_alloc (Below.refl _ _) (.cells #[.bool cb, .slice A5 k5 c5, .slice A5' k5' c5'] 32))
    have hsz5 : w5.heap.size < (w5.alloc (.cells #[.bool cb, .slice A5 k5 c5, .slice A5' k5' c5'] 32)).heap.size := by simp
    generalize w5.alloc (.cells #[.bool cb, .slice A5 k5 c5, .slice A5' k5' c5'] 32) = W5 at *
    generalize w5.heap.size = B5 at *
    have HG5 := Lib.hid (fun (w' : World) (h : Ext W5 w') => hG5.below h)
    have HP5 := Lib.hid (fun (w' : World) (h : Ext W5 w') => (⟨p5.below h, q5.below h⟩ : CanV w' (.slice A5 k5 c5) cn ∧ CanV w' (.slice A5' k5' c5') cd))
    have V5 := V4.trans Y5
    clear hG5 p5 q5 y5 hsz5
    go_wp2_with fail
    refine ((Hc.out _ _ _ (HI.out _ (x0.trans V5)) (IntsV.nilAt _ (some ⟨WZ.heap.size, 0, none⟩) 0 (by omega))).2).mono ?_
    rintro e w6 ⟨A6, k6, c6, A6', k6', c6', rfl, p6, q6, y6, n6, n6'⟩
    clear n6 n6'
    go_upto_region 15 with (fail)
    have hG6 := FBox.new w6 (.bool cb) (.slice A6 k6 c6) (.slice A6' k6' c6') 32
    have Y6 : Ext W5 (w6.alloc (.cells #[.bool cb, .slice A6 k6 c6, .slice A6' k6' c6'] 32)) := ext_alloc y6 _
    have p6 := p6.below (ext_alloc (Below.refl _ _) (.cells #[.bool cb, .slice A6 k6 c6, .slice A6' k6' c6'] 32))
    have q6 := q6.below (ext_alloc (Below.refl _ _) (.cells #[.bool cb, .slice A6 k6 c6, .slice A6' k6' c6'] 32))
    have hsz6 : w6.heap.size < (w6.alloc (.cells #[.bool cb, .slice A6 k6 c6, .slice A6' k6' c6'] 32)).heap.size := by simp
    generalize w6.alloc (.cells #[.bool cb, .slice A6 k6 c6, .slice A6' k6' c6'] 32) = W6 at *
    generalize w6.heap.size = B6 at *
    have HG6 := Lib.hid (fun (w' : World) (h : Ext W6 w') => hG6.below h)
    have HP6 := Lib.hid (fun (w' : World) (h : Ext W6 w') => (⟨p6.below h, q6.below h⟩ : CanV w' (.slice A6 k6 c6) cn ∧ CanV w' (.slice A6' k6' c6') cd))
    have V6 := V5.trans Y6
    clear hG6 p6 q6 y6 hsz6
    go_wp2_with fail
    refine ((Hd.out _ _ _ (HI.out _ (x0.trans V6)) (IntsV.nilAt _ (some ⟨WZ.heap.size, 0, none⟩) 0 (by omega))).1).mono ?_
    rintro e w7 ⟨A7, k7, c7, A7', k7', c7', rfl, p7, q7, y7, n7, n7'⟩
    clear n7 n7'
    go_upto_region 16 with (fail)
    have hG7 := FBox.new w7 (.bool db) (.slice A7 k7 c7) (.slice A7' k7' c7') 32
    have Y7 : Ext W6 (w7.alloc (.cells #[.bool db, .slice A7 k7 c7, .slice A7' k7' c7'] 32)) := ext_alloc y7 _
    have p7 := p7.below (ext_alloc (Below.refl _ _) (.cells #[.bool db, .slice A7 k7 c7, .slice A7' k7' c7'] 32))
    have q7 := q7.below (ext_alloc (Below.refl _ _) (.cells #[.bool db, .slice A7 k7 c7, .slice A7' k7' c7'] 32))
    have hsz7 : w7.heap.size < (w7.alloc (.cells #[.bool db, .slice A7 k7 c7, .slice A7' k7' c7'] 32)).heap.size := by simp
    generalize w7.alloc (.cells #[.bool db, .slice A7 k7 c7, .slice A7' k7' c7'] 32) = W7 at *
    generalize w7.heap.size = B7 at *
    have HG7 := Lib.hid (fun (w' : World) (h : Ext W7 w') => hG7.below h)
    have HP7 := Lib.hid (fun (w' : World) (h : Ext W7 w') => (⟨p7.below h, q7.below h⟩ : CanV w' (.slice A7 k7 c7) dn ∧ CanV w' (.slice A7' k7' c7') dd))
    have V7 := V6.trans Y7
    clear hG7 p7 q7 y7 hsz7
    go_wp2_with fail
    refine ((Hd.out _ _ _ (HI.out _ (x0.trans V7)) (IntsV.nilAt _ (some ⟨WZ.heap.size, 0, none⟩) 0 (by omega))).2).mono ?_
    rintro e w8 ⟨A8, k8, c8, A8', k8', c8', rfl, p8, q8, y8, n8, n8'⟩
    clear n8 n8'
    go_upto_region 17 with (fail)
    have hG8 := FBox.new w8 (.bool db) (.slice A8 k8 c8) (.slice A8' k8' c8') 32
    have Y8 : Ext W7 (w8.alloc (.cells #[.bool db, .slice A8 k8 c8, .slice A8' k8' c8'] 32)) := ext_alloc y8 _
    have p8 := p8.below (ext_alloc (Below.refl _ _) (.cells #[.bool db, .slice A8 k8 c8, .slice A8' k8' c8'] 32))
    have q8 := q8.below (ext_alloc (Below.refl _ _) (.cells #[.bool db, .slice A8 k8 c8, .slice A8' k8' c8'] 32))
    have hsz8 : w8.heap.size < (w8.alloc (.cells #[.bool db, .slice A8 k8 c8, .slice A8' k8' c8'] 32)).heap.size := by simp
    generalize w8.alloc (.cells #[.bool db, .slice A8 k8 c8, .slice A8' k8' c8'] 32) = W8 at *
    generalize w8.heap.size = B8 at *
    have HG8 := Lib.hid (fun (w' : World) (h : Ext W8 w') => hG8.below h)
    have HP8 := Lib.hid (fun (w' : World) (h : Ext W8 w') => (⟨p8.below h, q8.below h⟩ : CanV w' (.slice A8 k8 c8) dn ∧ CanV w' (.slice A8' k8' c8') dd))
    have V8 := V7.trans Y8
    clear hG8 p8 q8 y8 hsz8
    have E8 : Ext W8 W8 := Below.refl _ _
    have E7 : Ext W7 W8 := Y8.trans E8
    have E6 : Ext W6 W8 := Y7.trans E7
    have E5 : Ext W5 W8 := Y6.trans E6
    have E4 : Ext W4 W8 := Y5.trans E5
    have E3 : Ext W3 W8 := Y4.trans E4
    have E2 : Ext W2 W8 := Y3.trans E3
    have E1 : Ext W1 W8 := Y2.trans E2
    have f0 : Ext W8 W8 := Below.refl _ _
    obtain ⟨r10, r11, r12, _, _, _⟩ := HG1.out _ (E1.trans f0)
    obtain ⟨r20, r21, r22, _, _, _⟩ := HG2.out _ (E2.trans f0)
    obtain ⟨r30, r31, r32, _, _, _⟩ := HG3.out _ (E3.trans f0)
    obtain ⟨r40, r41, r42, _, _, _⟩ := HG4.out _ (E4.trans f0)
    obtain ⟨r50, r51, r52, _, _, _⟩ := HG5.out _ (E5.trans f0)
    obtain ⟨r60, r61, r62, _, _, _⟩ := HG6.out _ (E6.trans f0)
    obtain ⟨r70, r71, r72, _, _, _⟩ := HG7.out _ (E7.trans f0)
    obtain ⟨r80, r81, r82, _, _, _⟩ := HG8.out _ (E8.trans f0)
    have HQ1 := Lib.hid (fun (w' : World) (h : Ext W8 w') => (⟨HP1.out _ (E1.trans h), HP2.out _ (E2.trans h)⟩ : (CanV w' (.slice A1 k1 c1) an ∧ CanV w' (.slice A1' k1' c1') ad) ∧ (CanV w' (.slice A2 k2 c2) an ∧ CanV w' (.slice A2' k2' c2') ad)))
    have HQ2 := Lib.hid (fun (w' : World) (h : Ext W8 w') => (⟨HP3.out _ (E3.trans h), HP4.out _ (E4.trans h)⟩ : (CanV w' (.slice A3 k3 c3) bn ∧ CanV w' (.slice A3' k3' c3') bd) ∧ (CanV w' (.slice A4 k4 c4) bn ∧ CanV w' (.slice A4' k4' c4') bd)))
    have HQ3 := Lib.hid (fun (w' : World) (h : Ext W8 w') => (⟨HP5.out _ (E5.trans h), HP6.out _ (E6.trans h)⟩ : (CanV w' (.slice A5 k5 c5) cn ∧ CanV w' (.slice A5' k5' c5') cd) ∧ (CanV w' (.slice A6 k6 c6) cn ∧ CanV w' (.slice A6' k6' c6') cd)))
    have HQ4 := Lib.hid (fun (w' : World) (h : Ext W8 w') => (⟨HP7.out _ (E7.trans h), HP8.out _ (E8.trans h)⟩ : (CanV w' (.slice A7 k7 c7) dn ∧ CanV w' (.slice A7' k7' c7') dd) ∧ (CanV w' (.slice A8 k8 c8) dn ∧ CanV w' (.slice A8' k8' c8') dd)))
    go_wp2_with (first
      | (go_at_call 19; (with_reducible refine (bfrac_eq (HQ1.out _ (by first | ((repeat first | assumption | exact Below.refl _ _ | refine ext_alloc ?_ _ | refine ext_drew ?_ | refine ext_set ?_ (by first | omega | (simp; done) | (simp; omega)) _); done) | fail)).1.1 (HQ1.out _ (by first | ((repeat first | assumption | exact Below.refl _ _ | refine ext_alloc ?_ _ | refine ext_drew ?_ | refine ext_set ?_ (by first | omega | (simp; done) | (simp; omega)) _); done) | fail)).1.2 (HQ1.out _ (by first | ((repeat first | assumption | exact Below.refl _ _ | refine ext_alloc ?_ _ | refine ext_drew ?_ | refine ext_set ?_ (by first | omega | (simp; done) | (simp; omega)) _); done) | fail)).2.1 (HQ1.out _ (by first | ((repeat first | assumption | exact Below.refl _ _ | refine ext_alloc ?_ _ | refine ext_drew ?_ | refine ext_set ?_ (by first | omega | (simp; done) | (simp; omega)) _); done) | fail)).2.2).mono ?_); rintro e s1 ⟨rfl, z1⟩; have f1 : Ext W8 s1 := Ext.trans (by first | ((repeat first | assumption | exact Below.refl _ _ | refine ext_alloc ?_ _ | refine ext_drew ?_ | refine ext_set ?_ (by first | omega | (simp; done) | (simp; omega)) _); done) | fail) z1; obtain ⟨r30, r31, r32, _, _, _⟩ := HG3.out _ (E3.trans f1); obtain ⟨r40, r41, r42, _, _, _⟩ := HG4.out _ (E4.trans f1); obtain ⟨r50, r51, r52, _, _, _⟩ := HG5.out _ (E5.trans f1); obtain ⟨r60, r61, r62, _, _, _⟩ := HG6.out _ (E6.trans f1); obtain ⟨r70, r71, r72, _, _, _⟩ := HG7.out _ (E7.trans f1); obtain ⟨r80, r81, r82, _, _, _⟩ := HG8.out _ (E8.trans f1))
      | (go_at_call 19; (with_reducible refine (bfrac_eq (HQ2.out _ (by first | ((repeat first | assumption | exact Below.refl _ _ | refine ext_alloc ?_ _ | refine ext_drew ?_ | refine ext_set ?_ (by first | omega | (simp; done) | (simp; omega)) _); done) | fail)).1.1 (HQ2.out _ (by first | ((repeat first | assumption | exact Below.refl _ _ | refine ext_alloc ?_ _ | refine ext_drew ?_ | refine ext_set ?_ (by first | omega | (simp; done) | (simp; omega)) _); done) | fail)).1.2 (HQ2.out _ (by first | ((repeat first | assumption | exact Below.refl _ _ | refine ext_alloc ?_ _ | refine ext_drew ?_ | refine ext_set ?_ (by first | omega | (simp; done) | (simp; omega)) _); done) | fail)).2.1 (HQ2.out _ (by first | ((repeat first | assumption | exact Below.refl _ _ | refine ext_alloc ?_ _ | refine ext_drew ?_ | refine ext_set ?_ (by first | omega | (simp; done) | (simp; omega)) _); done) | fail)).2.2).mono ?_); rintro e s2 ⟨rfl, z2⟩; have f2 : Ext W8 s2 := Ext.trans (by first | ((repeat first | assumption | exact Below.refl _ _ | refine ext_alloc ?_ _ | refine ext_drew ?_ | refine ext_set ?_ (by first | omega | (simp; done) | (simp; omega)) _); done) | fail) z2; obtain ⟨r50, r51, r52, _, _, _⟩ := HG5.out _ (E5.trans f2); obtain ⟨r60, r61, r62, _, _, _⟩ := HG6.out _ (E6.trans f2); obtain ⟨r70, r71, r72, _, _, _⟩ := HG7.out _ (E7.trans f2); obtain ⟨r80, r81, r82, _, _, _⟩ := HG8.out _ (E8.trans f2))
      | (go_at_call 19; (with_reducible refine (bfrac_eq (HQ3.out _ (by first | ((repeat first | assumption | exact Below.refl _ _ | refine ext_alloc ?_ _ | refine ext_drew ?_ | refine ext_set ?_ (by first | omega | (simp; done) | (simp; omega)) _); done) | fail)).1.1 (HQ3.out _ (by first | ((repeat first | assumption | exact Below.refl _ _ | refine ext_alloc ?_ _ | refine ext_drew ?_ | refine ext_set ?_ (by first | omega | (simp; done) | (simp; omega)) _); done) | fail)).1.2 (HQ3.out _ (by first | ((repeat first | assumption | exact Below.refl _ _ | refine ext_alloc ?_ _ | refine ext_drew ?_ | refine ext_set ?_ (by first | omega | (simp; done) | (simp; omega)) _); done) | fail)).2.1 (HQ3.out _ (by first | ((repeat first | assumption | exact Below.refl _ _ | refine ext_alloc ?_ _ | refine ext_drew ?_ | refine ext_set ?_ (by first | omega | (simp; done) | (simp; omega)) _); done) | fail)).2.2).mono ?_); rintro e s3 ⟨rfl, z3⟩; have f3 : Ext W8 s3 := Ext.trans (by first | ((repeat first | assumption | exact Below.refl _ _ | refine ext_alloc ?_ _ | refine ext_drew ?_ | refine ext_set ?_ (by first | omega | (simp; done) | (simp; omega)) _); done) | fail) z3; obtain ⟨r70, r71, r72, _, _, _⟩ := HG7.out _ (E7.trans f3); obtain ⟨r80, r81, r82, _, _, _⟩ := HG8.out _ (E8.trans f3))
      | (go_at_call 19; (with_reducible refine (bfrac_eq (HQ4.out _ (by first | ((repeat first | assumption | exact Below.refl _ _ | refine ext_alloc ?_ _ | refine ext_drew ?_ | refine ext_set ?_ (by first | omega | (simp; done) | (simp; omega)) _); done) | fail)).1.1 (HQ4.out _ (by first | ((repeat first | assumption | exact Below.refl _ _ | refine ext_alloc ?_ _ | refine ext_drew ?_ | refine ext_set ?_ (by first | omega | (simp; done) | (simp; omega)) _); done) | fail)).1.2 (HQ4.out _ (by first | ((repeat first | assumption | exact Below.refl _ _ | refine ext_alloc ?_ _ | refine ext_drew ?_ | refine ext_set ?_ (by first | omega | (simp; done) | (simp; omega)) _); done) | fail)).2.1 (HQ4.out _ (by first | ((repeat first | assumption | exact Below.refl _ _ | refine ext_alloc ?_ _ | refine ext_drew ?_ | refine ext_set ?_ (by first | omega | (simp; done) | (simp; omega)) _); done) | fail)).2.2).mono ?_); rintro e s4 ⟨rfl, z4⟩; have f4 : Ext W8 s4 := Ext.trans (by first | ((repeat first | assumption | exact Below.refl _ _ | refine ext_alloc ?_ _ | refine ext_drew ?_ | refine ext_set ?_ (by first | omega | (simp; done) | (simp; omega)) _); done) | fail) z4))
    go_ret
    exact ⟨rfl, x0.trans (V8.trans f4)⟩

theorem law_EstimatorOrder {v v1 : Value} {zs cs : List Int} {w : World} (hv : KInts .i64 w v zs) (hv1 : KInts .u8 w v1 cs) (ht : Tab10 w) :
    Calls Tryd.prog 8 #[v, v1] w (fun e w' => e = .returned (.bool true) ∧ Ext w w') := by
  have hI := hv.ints
  obtain ⟨A, cc, rfl, hc1, hc2, _⟩ := id hI
  by_cases hl : zs.length ≤ 80
  · by_cases h0 : 0 < zs.length
    · exact law_EOrder hI hv1 (by
        obtain ⟨_, _, _, _, _, _, hwf⟩ := hv1
        intro c hc
        have := hwf c hc
        simp [Lit.wf, IntKind.min, IntKind.max, IntKind.signed, IntKind.bits] at this
        omega) ht hl h0
    · have e : zs = [] := List.eq_nil_of_length_eq_zero (by omega)
      subst e
      exact law_EOrder0 hI ht
  · clear hI hv hv1
    go_enter Tryd.func8, Tryd.ntmps8
    go_wp2_with (first
      | (go_at_call 12; (with_reducible refine (eawake ht).mono ?_); rintro e w1 ⟨rfl, x1⟩; have y1 : Ext w w1 := (by first | exact x1 | exact Ext.trans y1 x1); have ht := ht.ext x1)
      | (go_at_call 13; (with_reducible refine (few_f hl).mono ?_); rintro e w1' ⟨rfl, rfl⟩))
    go_ret
    exact ⟨rfl, y1⟩

end Go.Proofs.YtkjcbfaimonaoaaDoor
