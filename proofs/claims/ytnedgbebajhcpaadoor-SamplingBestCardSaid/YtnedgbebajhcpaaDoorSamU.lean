/- sampling: Toulmin; the fixed calls. -/
import Derived.Test.YtnedgbebajhcpaaDoorSamF
set_option linter.unusedVariables false
set_option linter.unusedSimpArgs false
set_option maxRecDepth 100000
namespace Go.Proofs.YtnedgbebajhcpaaDoor
open Go.RowKit Num

theorem pw_succS (x : Rat) (k : Nat) : pw x (k + 1) = pw x k * x := rfl
def toulP (t : Nat) (i : Nat) : Rat := - pw (-(t : Rat)) i
def toulS (zs : List Int) (t : Nat) (i : Nat) : Rat := sumQ (toulF (fun i => ((zs.getD i 0 : Int) : Rat)) (t : Rat)) i
theorem toulP_zero (t : Nat) : toulP t 0 = ((-1 : Int) : Rat) / ((1 : Int) : Rat) := by
  have e : ((-1 : Int) : Rat) / ((1 : Int) : Rat) = -1 := by decide +kernel
  rw [e]; rfl
theorem toulP_succ (t i : Nat) : toulP t (i + 1) = toulP t i * (((-(t : Int) : Int) : Rat) / ((1 : Int) : Rat)) := by
  unfold toulP
  rw [pw_succS]
  have e1 : ((1 : Int) : Rat) = 1 := rfl
  rw [e1, Rat.intCast_neg, Rat.intCast_natCast]
  grind
theorem toulS_succ (zs : List Int) (t i : Nat) : toulS zs t (i + 1) = toulS zs t i + toulP t (i + 1) * (((zs.getD i 0 : Int) : Rat) / ((1 : Int) : Rat)) := by
  unfold toulS
  rw [sumQ_succ]
  have e1 : ((1 : Int) : Rat) = 1 := rfl
  unfold toulF toulP
  rw [e1]
  grind
theorem toulP_fb {t : Nat} (ht : t ≤ 8) : ∀ i, FB (toulP t i) (3 + 3 * i)
  | 0 => by rw [toulP_zero]; exact fb_i64 (by omega) (by omega)
  | i + 1 => by
    rw [toulP_succ]
    exact (FB.mul (toulP_fb ht i) (fb_i64 (n := -(t : Int)) (d := 1) (by omega) (by omega)) (by omega)).mono (by omega)
theorem toulS_fb {zs : List Int} {t : Nat} (ht : t ≤ 8) (hz : ∀ z ∈ zs, 0 ≤ z ∧ z ≤ 64) (hl : zs.length ≤ 64) : ∀ i, i ≤ zs.length → FB (toulS zs t i) (3 + 300 * i)
  | 0, _ => by
    show FB (0 : Rat) _
    exact fb_zero.mono (by omega)
  | i + 1, h => by
    rw [toulS_succ]
    have hm := hz _ (getD_memS (us := zs) (k := i) (by omega))
    exact (FB.add (toulS_fb ht hz hl i (by omega)) (FB.mul (toulP_fb ht (i + 1)) (fb_i64 (n := zs.getD i 0) (d := 1) (by omega) (by omega)) (by omega)) (by omega)).mono (by omega)

/-- What is read of a value lies in neither of the two blocks. -/
def ApartL (X Y : Nat) (v : Value) : Prop := ∀ ad n c, v = .slice (some ad) n c → 0 < n → ad.block ≠ X ∧ ad.block ≠ Y
theorem ApartL.new {X Y B : Nat} {v : Value} (h : New B v) (hx : X < B) (hy : Y < B) : ApartL X Y v := fun ad n c e _ => by
  subst e
  have := h ad.block (by simp [Value.ownBlock])
  omega
theorem CanV.low {w : World} {v : Value} {n X Y : Nat} (h : CanV w v n) (hx : w.heap.size ≤ X) (hy : w.heap.size ≤ Y) : ApartL X Y v := fun ad m c e hm => by
  obtain ⟨A, cap, rfl, _, _, hr⟩ := h
  injection e with e1 e2 e3
  subst e1 e2
  obtain ⟨ad', e', hb, _⟩ := hr.2 hm
  injection e' with e'
  subst e'
  omega
theorem CanV.textL {X Y : Nat} {w w' : World} {v : Value} {n : Nat} (h : CanV w v n) (ht : TExt X Y w w') (ha : ApartL X Y v) : CanV w' v n := by
  obtain ⟨A, c, rfl, h2, h3, h4⟩ := h
  refine ⟨A, c, rfl, h2, h3, h4.1, fun hn => ?_⟩
  obtain ⟨ad, e, hb, hc⟩ := h4.2 hn
  subst e
  have hg := ha ad _ _ rfl hn
  exact ⟨ad, rfl, Nat.lt_of_lt_of_le hb ht.size, fun j u hu => (ht.cell (by rw [block_of_add]; exact hb) (by rw [block_of_add]; exact hg.1) (by rw [block_of_add]; exact hg.2)).trans (hc j u hu)⟩
/-- One of two boxes that are written in a loop. -/
def FI2 (X Y : Nat) (W wr : World) (b : Nat) (q : Rat) : Prop := ∃ c A k l A' k' l', FBox wr b (.bool c) (.slice A k l) (.slice A' k' l') ∧ FracV wr c (.slice A k l) (.slice A' k' l') q ∧ (New W.heap.size (.slice A k l) ∧ New W.heap.size (.slice A' k' l')) ∧ ApartL X Y (.slice A k l) ∧ ApartL X Y (.slice A' k' l')
/-- The other box was written. -/
theorem FI2.other {X Y b b' : Nat} {W wr : World} {q : Rat} (h : FI2 X Y W wr b q) (hne : b' ≠ b) (hb' : b' = X ∨ b' = Y) (x y z : Value) : FI2 X Y W (((wr.setCell ⟨b', 0, none⟩ x).setCell ⟨b', 1, none⟩ y).setCell ⟨b', 2, none⟩ z) b q := by
  obtain ⟨c, A, k, l, A', k', l', h1, h2, h3, h4, h5⟩ := h
  have T : TExt X Y wr (((wr.setCell ⟨b', 0, none⟩ x).setCell ⟨b', 1, none⟩ y).setCell ⟨b', 2, none⟩ z) := (((TExt.refl X Y wr).set hb' _).set hb' _).set hb' _
  exact ⟨c, A, k, l, A', k', l', h1.away hne _ _ _, ⟨h2.1, h2.2.1.textL T h4, h2.2.2.textL T h5⟩, h3, h4, h5⟩
theorem FI2.ext {X Y b : Nat} {W wr w' : World} {q : Rat} (h : FI2 X Y W wr b q) (hx : Ext wr w') : FI2 X Y W w' b q := by
  obtain ⟨c, A, k, l, A', k', l', h1, h2, h3, h4, h5⟩ := h
  exact ⟨c, A, k, l, A', k', l', h1.below hx, h2.below hx, h3, h4, h5⟩
/-- The box itself was written. -/
theorem FI2.put {X Y b B : Nat} {W wr : World} {q q' : Rat} (h : FI2 X Y W wr b q) (hb : b = X ∨ b = Y) {c : Bool} {A A' : Option Addr} {k l k' l' : Nat} (hv : FracV wr c (.slice A k l) (.slice A' k' l') q') (n1 : New B (.slice A k l)) (n2 : New B (.slice A' k' l')) (hX : X < B) (hY : Y < B) (hW : W.heap.size ≤ B) :
    FI2 X Y W (((wr.setCell ⟨b, 0, none⟩ (.bool c)).setCell ⟨b, 1, none⟩ (.slice A k l)).setCell ⟨b, 2, none⟩ (.slice A' k' l')) b q' := by
  obtain ⟨c0, A0, k0, l0, A0', k0', l0', h1, _⟩ := h
  exact ⟨c, A, k, l, A', k', l', h1.put _ _ _, FracV.put hv n1 n2 (by omega) _ _ _, ⟨n1.mono hW, n2.mono hW⟩, ApartL.new n1 hX hY, ApartL.new n2 hX hY⟩

set_option maxHeartbeats 8000000 in
theorem stoul_ok {zs : List Int} {t : Nat} {A : Option Addr} {c : Nat} {w : World} (hv : IntsV w (.slice A zs.length c) zs) (hz : ∀ z ∈ zs, 0 ≤ z ∧ z ≤ 64) (hl : zs.length ≤ 64) (ht : t ≤ 8) :
    Calls Tryd.prog 19 #[.slice A zs.length c, .int .i64 t] w (GivesFE w (toulS zs t zs.length)) := by
  have HV := Lib.hid (fun (w' : World) (h : Ext w w') => hv.below h)
  have HZ := Lib.hid hz
  have HFP := Lib.hid (fun (i : Nat) => toulP_fb ht i)
  have HFS := Lib.hid (fun (i : Nat) (h : i ≤ zs.length) => toulS_fb ht hz hl i h)
  have hwt : IntKind.i64.wrap (-(t : Int)) = -(t : Int) := wrap_in (by omega)
  have e64 : decide ((64 : Int) < (zs.length : Int)) = false := decide_eq_false (by omega)
  clear hv hz
  go_enter Tryd.func19, Tryd.ntmps19
  go_upto_region 1 with (fail)
  have hF0 := FBox.new w (.bool false) (.slice none 0 0) (.slice none 0 0) 28
  have x0 : Ext w (w.alloc (.cells #[.bool false, .slice none 0 0, .slice none 0 0] 28)) := ext_alloc (Below.refl _ _) _
  have hs0 : w.heap.size + 1 ≤ (w.alloc (.cells #[.bool false, .slice none 0 0, .slice none 0 0] 28)).heap.size := by simp
  generalize w.alloc (.cells #[.bool false, .slice none 0 0, .slice none 0 0] 28) = W0 at *
  have HF := Lib.hid (fun (w' : World) (h : Ext W0 w') => hF0.below h)
  have HE := Lib.hid x0
  have f0 : Ext W0 W0 := Below.refl _ _
  obtain ⟨r0, r1, r2, g0, g1, g2⟩ := hF0
  clear x0
  go_wp2
  go_loop [18] (fun iv => ∃ k : Nat, k ≤ zs.length ∧ iv = .int .i64 k) (fun iv => zs.length - (intOf iv).toNat)
  case atStart => exact ⟨0, Nat.zero_le _, rfl⟩
  case round =>
    obtain ⟨k, hk, rfl⟩ := hrel
    by_cases hkn : k < zs.length
    · obtain ⟨b, o, rfl, hb, hc⟩ := (HV.out _ HE.out).plS hkn
      obtain ⟨x, hx⟩ : ∃ x, x = zs.getD k 0 := ⟨_, rfl⟩
      obtain ⟨h1, h2⟩ := HZ.out _ (getD_memS hkn)
      rw [← hx] at hc h1 h2
      have hi1 : (0 : Int) ≤ (k : Int) := by omega
      have hi2 : (k : Int) < (zs.length : Int) := by omega
      have hwk : IntKind.i64.wrap ((k : Int) + 1) = (k : Int) + 1 := wrap_in (by omega)
      clear hx
      go_wp2_with (go_at_call 32; (with_reducible refine (swithin_t (n := x) h1 h2).mono ?_); rintro _ s1 ⟨rfl, hs1⟩; obtain rfl : W0 = s1 := hs1.symm)
      go_round
      case rel => exact ⟨k + 1, by omega, by go_num⟩
      case measure => simp [intOf]; omega
    · obtain rfl : k = zs.length := by omega
      have hkk : ¬ ((zs.length : Int) < (zs.length : Int)) := by omega
      go_upto_region 11 with (go_at_call 32; (with_reducible refine (swithin_t (n := (t : Int)) (by omega) (by omega)).mono ?_); rintro _ s1 ⟨rfl, hs1⟩; obtain rfl : W0 = s1 := hs1.symm)
      clear r0 r1 r2 g0 g1 g2
      go_wp2_with fail
      refine (fof_n (n := 0) (d := 1) (by omega) (by omega)).mono ?_
      rintro e w6 ⟨b6, A6, k6, c6, A6', k6', c6', rfl, h6, y6, n6, n6'⟩
      go_wp2_with fail
      refine (fof_n (n := -1) (d := 1) (by omega) (by omega)).mono ?_
      rintro e w7 ⟨b7, A7, k7, c7, A7', k7', c7', rfl, h7, y7, n7, n7'⟩
      rw [zero_first] at h6
      rw [← toulP_zero t] at h7
      go_upto_region 12 with (fail)
      obtain ⟨X, hX⟩ : ∃ X, X = w7.heap.size := ⟨_, rfl⟩
      have bX := (FBox.new w7 (.bool b6) (.slice A6 k6 c6) (.slice A6' k6' c6') 28).below (ext_alloc (Below.refl _ _) (.cells #[.bool b7, .slice A7 k7 c7, .slice A7' k7' c7'] 28))
      have bY := FBox.new (w7.alloc (.cells #[.bool b6, .slice A6 k6 c6, .slice A6' k6' c6'] 28)) (.bool b7) (.slice A7 k7 c7) (.slice A7' k7' c7') 28
      rw [show (w7.alloc (.cells #[.bool b6, .slice A6 k6 c6, .slice A6' k6' c6'] 28)).heap.size = w7.heap.size + 1 from by simp] at bY
      have x9 : Ext w7 ((w7.alloc (.cells #[.bool b6, .slice A6 k6 c6, .slice A6' k6' c6'] 28)).alloc (.cells #[.bool b7, .slice A7 k7 c7, .slice A7' k7' c7'] 28)) := ext_alloc (ext_alloc (Below.refl _ _) _) _
      generalize (w7.alloc (.cells #[.bool b6, .slice A6 k6 c6, .slice A6' k6' c6'] 28)).alloc (.cells #[.bool b7, .slice A7 k7 c7, .slice A7' k7' c7'] 28) = W9 at *
      have hy6 := y6.size
      have hy7 := y7.size
      have hWX : W0.heap.size ≤ X := by omega
      have i6 : FI2 X (X + 1) W0 W9 X (toulS zs t 0) := ⟨b6, A6, k6, c6, A6', k6', c6', by rw [hX]; exact bX, h6.below (y7.trans x9), ⟨n6, n6'⟩, CanV.low h6.2.1 (by omega) (by omega), CanV.low h6.2.2 (by omega) (by omega)⟩
      have i7 : FI2 X (X + 1) W0 W9 (X + 1) (toulP t 0) := ⟨b7, A7, k7, c7, A7', k7', c7', by rw [hX]; exact bY, h7.below x9, ⟨n7.mono (by omega), n7'.mono (by omega)⟩, CanV.low h7.2.1 (by omega) (by omega), CanV.low h7.2.2 (by omega) (by omega)⟩
      have x0 : Ext W0 W9 := y6.trans (y7.trans x9)
      rw [← hX]
      clear bX bY h6 h7 n6 n6' n7 n7' y6 y7 x9 hX
      go_wp2
      go_loopw [35] (fun iv wr => ∃ i : Nat, i ≤ zs.length ∧ iv = .int .i64 i ∧ FI2 X (X + 1) W0 wr X (toulS zs t i) ∧ FI2 X (X + 1) W0 wr (X + 1) (toulP t i) ∧ Ext W0 wr) (fun iv _ => zs.length - (intOf iv).toNat)
      case atStart => exact ⟨0, Nat.zero_le _, rfl, i6, i7, x0⟩
      case round =>
        clear i6 i7 x0
        obtain ⟨i, hi, rfl, iS, iP, hx⟩ := hrel
        have HIS := Lib.hid (fun (w' : World) (h : Ext wr w') => iS.ext h)
        have HIP := Lib.hid (fun (w' : World) (h : Ext wr w') => iP.ext h)
        by_cases hil : i < zs.length
        · obtain ⟨b, o, rfl, hb, hc⟩ := (HV.out _ (HE.out.trans hx)).plS hil
          obtain ⟨x, hxx⟩ : ∃ x, x = zs.getD i 0 := ⟨_, rfl⟩
          obtain ⟨h1, h2⟩ := HZ.out _ (getD_memS hil)
          rw [← hxx] at hc h1 h2
          have HSU := Lib.hid (toulS_succ zs t i)
          have HPU := Lib.hid (toulP_succ t i)
          rw [← hxx] at HSU
          have HF1 := Lib.hid (HFP.out i)
          have HF2 := Lib.hid (HFP.out (i + 1))
          have HF3 := Lib.hid (HFS.out i hi)
          have HFT := Lib.hid (show FB (((-(t : Int) : Int) : Rat) / ((1 : Int) : Rat)) 3 from fb_i64 (by omega) (by omega))
          have HFX := Lib.hid (show FB ((x : Rat) / ((1 : Int) : Rat)) 3 from fb_i64 (by omega) (by omega))
          have hi1 : (0 : Int) ≤ (i : Int) := by omega
          have hi2 : (i : Int) < (zs.length : Int) := by omega
          have hwk : IntKind.i64.wrap ((i : Int) + 1) = (i : Int) + 1 := wrap_in (by omega)
          obtain ⟨cS, AS, kS, lS, AS', kS', lS', ⟨s0, s1', s2', gs0, gs1, gs2⟩, hvS, _, _, _⟩ := iS
          obtain ⟨cP, AP, kP, lP, AP', kP', lP', ⟨p0, p1, p2, gp0, gp1, gp2⟩, hvP, _, _, _⟩ := iP
          have hXl : X + 1 < wr.heap.size := World.block_lt_of_cell? _ _ p0
          have HPB := Lib.hid (fun (w' : World) (h : Ext wr w') => FBox.below (w := wr) (b := X + 1) (x := .bool cP) (y := .slice AP kP lP) (z := .slice AP' kP' lP') ⟨p0, p1, p2, gp0, gp1, gp2⟩ h)
          have HSB := Lib.hid (fun (w' : World) (h : Ext wr w') => FBox.below (w := wr) (b := X) (x := .bool cS) (y := .slice AS kS lS) (z := .slice AS' kS' lS') ⟨s0, s1', s2', gs0, gs1, gs2⟩ h)
          have HPV := Lib.hid (fun (w' : World) (h : Ext wr w') => FracV.any (hvP.below h) HF1.out (by omega))
          have HS := Lib.hid (fun (w' : World) (h : Ext wr w') => (⟨(HPB.out _ h).1, (HPB.out _ h).2.1, (HPB.out _ h).2.2.1⟩ : w'.cell? ⟨X + 1, 0, none⟩ = some (.bool cP) ∧ w'.cell? ⟨X + 1, 1, none⟩ = some (.slice AP kP lP) ∧ w'.cell? ⟨X + 1, 2, none⟩ = some (.slice AP' kP' lP')))
          clear hvP s0 s1' s2' gs0 gs1 gs2 p0 p1 p2 gp0 gp1 gp2 hxx
          go_upto_region 15 with (fail)
          refine wp_region_G (fun w' => Ext wr w') [5] (by kernel_rfl) ?_
          have gS : Ext wr wr.drew := (Below.refl _ _).drew
          refine wpAnyG_take 0 (v := ?_) rfl (by kernel_rfl) (by kernel_rfl) (by kernel_rfl) (by kernel_rfl) (by rfl) (by kernel_rfl) (fun _ _ _ h => h) (by rfl) (fun w' hw' => ?_) gS ?_
          rotate_left
          focus (have hh := HS.out _ hw'; go_split_ands; go_simp; (try with_reducible rfl); done)
          (try simp only [Act.put, List.getElem_toArray, List.getElem_cons_succ, List.getElem_cons_zero, List.setIfInBounds_toArray, List.set_cons_zero, List.set_cons_succ])
          refine wpAnyG_take 1 (v := ?_) rfl (by kernel_rfl) (by kernel_rfl) (by kernel_rfl) (by kernel_rfl) (by rfl) (by kernel_rfl) (fun _ _ _ h => h) (by rfl) (fun w' hw' => ?_) gS ?_
          rotate_left
          focus (go_simp; (try with_reducible rfl); done)
          (try simp only [Act.put, List.getElem_toArray, List.getElem_cons_succ, List.getElem_cons_zero, List.setIfInBounds_toArray, List.set_cons_zero, List.set_cons_succ])
          refine wpAnyG_take 2 (v := ?_) rfl (by kernel_rfl) (by kernel_rfl) (by kernel_rfl) (by kernel_rfl) (by rfl) (by kernel_rfl) (fun _ _ _ h => h) (by rfl) (fun w' hw' => ?_) gS ?_
          rotate_left
          focus (go_simp; (try with_reducible rfl); done)
          (try simp only [Act.put, List.getElem_toArray, List.getElem_cons_succ, List.getElem_cons_zero, List.setIfInBounds_toArray, List.set_cons_zero, List.set_cons_succ])
          refine wpAnyG_one 3 (by kernel_rfl) rfl (by rfl) (fun K hK => ?_)
          go_simp
          go_at_call 13
          refine (fof_n (n := -(t : Int)) (d := 1) (by omega) (by omega)).mono ?_
          rintro _ s1 ⟨b1, A1, k1, c1, B1, l1, d1, rfl, h1', z1, _⟩
          have gS : Ext wr s1 := Ext.trans gS z1
          (try go_wp2_with fail)
          refine hK.out _ _ (fun _ => gS) ?_
          clear hK K
          (try simp only [Act.put, List.getElem_toArray, List.getElem_cons_succ, List.getElem_cons_zero, List.setIfInBounds_toArray, List.set_cons_zero, List.set_cons_succ])
          refine wpAnyG_one 4 (by kernel_rfl) rfl (by rfl) (fun K hK => ?_)
          go_simp
          go_at_call 15
          refine (mul_f (HPV.out _ gS) (FracV.any h1' HFT.out (by omega)) (by omega)).mono ?_
          rw [← HPU.out]
          rintro _ s2 ⟨b2, A2, k2, c2, B2, l2, d2, rfl, h2', z2, n2, m2⟩
          have hg1 := gS.size
          have gS : Ext wr s2 := Ext.trans gS z2
          have f2 := gS
          obtain ⟨p0, p1, p2, gp0, gp1, gp2⟩ := HPB.out _ gS
          (try go_wp2_with fail)
          refine hK.out _ _ (fun _ => gS) ?_
          clear hK K
          (try simp only [Act.put, List.getElem_toArray, List.getElem_cons_succ, List.getElem_cons_zero, List.setIfInBounds_toArray, List.set_cons_zero, List.set_cons_succ])
          refine wpAnyG_one 5 (by kernel_rfl) rfl (by rfl) (fun K hK => ?_)
          go_simp
          refine hK.out _ _ (fun h => absurd h (by decide)) ?_
          clear hK K
          (try simp only [Act.put, List.getElem_toArray, List.getElem_cons_succ, List.getElem_cons_zero, List.setIfInBounds_toArray, List.set_cons_zero, List.set_cons_succ])
          refine wpAnyG_done (by kernel_rfl) ?_ _
          have jP := (HIP.out _ f2).put (.inr rfl) h2' n2 m2 (by omega) (by omega) (by have := hx.size; omega)
          have jS := (HIS.out _ f2).other (b' := X + 1) (by omega) (.inr rfl) (.bool b2) (.slice A2 k2 c2) (.slice B2 l2 d2)
          have jx := ext_put (b := X + 1) (hx.trans f2) (by omega) (.bool b2) (.slice A2 k2 c2) (.slice B2 l2 d2)
          have jc := FBox.away (b' := X + 1) (HSB.out _ f2) (by omega) (.bool b2) (.slice A2 k2 c2) (.slice B2 l2 d2)
          clear p0 p1 p2 gp0 gp1 gp2 h1' h2' n2 m2 gS f2 hg1
          generalize ((s2.setCell ⟨X + 1, 0, none⟩ (.bool b2)).setCell ⟨X + 1, 1, none⟩ (.slice A2 k2 c2)).setCell ⟨X + 1, 2, none⟩ (.slice B2 l2 d2) = WP at *
          have HJP := Lib.hid (fun (w' : World) (h : Ext WP w') => jP.ext h)
          have HJS := Lib.hid (fun (w' : World) (h : Ext WP w') => jS.ext h)
          obtain ⟨cQ, AQ, kQ, lQ, AQ', kQ', lQ', bQ, vQ, _, _, _⟩ := jP
          obtain ⟨cR, AR, kR, lR, AR', kR', lR', bR, vR, _, _, _⟩ := jS
          have hXp : X + 1 < WP.heap.size := bQ.lt
          have HQB := Lib.hid (fun (w' : World) (h : Ext WP w') => bQ.below h)
          have HRB := Lib.hid (fun (w' : World) (h : Ext WP w') => bR.below h)
          have HQV := Lib.hid (fun (w' : World) (h : Ext WP w') => FracV.any (vQ.below h) HF2.out (by omega))
          have HRV := Lib.hid (fun (w' : World) (h : Ext WP w') => FracV.any (vR.below h) HF3.out (by omega))
          have HFM := Lib.hid (FB.mul HF2.out HFX.out (by omega))
          have HS := Lib.hid (fun (w' : World) (h : Ext WP w') => (⟨⟨(HRB.out _ h).1, (HRB.out _ h).2.1, (HRB.out _ h).2.2.1⟩, (HQB.out _ h).1, (HQB.out _ h).2.1, (HQB.out _ h).2.2.1⟩ : (w'.cell? ⟨X, 0, none⟩ = some (.bool cR) ∧ w'.cell? ⟨X, 1, none⟩ = some (.slice AR kR lR) ∧ w'.cell? ⟨X, 2, none⟩ = some (.slice AR' kR' lR')) ∧ w'.cell? ⟨X + 1, 0, none⟩ = some (.bool cQ) ∧ w'.cell? ⟨X + 1, 1, none⟩ = some (.slice AQ kQ lQ) ∧ w'.cell? ⟨X + 1, 2, none⟩ = some (.slice AQ' kQ' lQ')))
          clear bQ vQ bR vR jc
          go_upto_region 16 with (fail)
          refine wp_region_G (fun w' => Ext WP w') [6] (by kernel_rfl) ?_
          have gS : Ext WP WP.drew := (Below.refl _ _).drew
          refine wpAnyG_take 0 (v := ?_) rfl (by kernel_rfl) (by kernel_rfl) (by kernel_rfl) (by kernel_rfl) (by rfl) (by kernel_rfl) (fun _ _ _ h => h) (by rfl) (fun w' hw' => ?_) gS ?_
          rotate_left
          focus (have hh := HS.out _ hw'; go_split_ands; go_simp; (try with_reducible rfl); done)
          (try simp only [Act.put, List.getElem_toArray, List.getElem_cons_succ, List.getElem_cons_zero, List.setIfInBounds_toArray, List.set_cons_zero, List.set_cons_succ])
          refine wpAnyG_take 1 (v := ?_) rfl (by kernel_rfl) (by kernel_rfl) (by kernel_rfl) (by kernel_rfl) (by rfl) (by kernel_rfl) (fun _ _ _ h => h) (by rfl) (fun w' hw' => ?_) gS ?_
          rotate_left
          focus (have hh := HS.out _ hw'; go_split_ands; go_simp; (try with_reducible rfl); done)
          (try simp only [Act.put, List.getElem_toArray, List.getElem_cons_succ, List.getElem_cons_zero, List.setIfInBounds_toArray, List.set_cons_zero, List.set_cons_succ])
          refine wpAnyG_take 2 (v := ?_) rfl (by kernel_rfl) (by kernel_rfl) (by kernel_rfl) (by kernel_rfl) (by rfl) (by kernel_rfl) (fun _ _ _ h => h) (by rfl) (fun w' hw' => ?_) gS ?_
          rotate_left
          focus (go_simp; (try with_reducible rfl); done)
          (try simp only [Act.put, List.getElem_toArray, List.getElem_cons_succ, List.getElem_cons_zero, List.setIfInBounds_toArray, List.set_cons_zero, List.set_cons_succ])
          refine wpAnyG_one 3 (by kernel_rfl) rfl (by rfl) (fun K hK => ?_)
          go_simp
          go_at_call 13
          refine (fof_n (n := x) (d := 1) (by omega) (by omega)).mono ?_
          rintro _ s3 ⟨b3, A3, k3, c3, B3, l3, d3, rfl, h3', z3, _⟩
          have gS : Ext WP s3 := Ext.trans gS z3
          (try go_wp2_with fail)
          refine hK.out _ _ (fun _ => gS) ?_
          clear hK K
          (try simp only [Act.put, List.getElem_toArray, List.getElem_cons_succ, List.getElem_cons_zero, List.setIfInBounds_toArray, List.set_cons_zero, List.set_cons_succ])
          refine wpAnyG_one 4 (by kernel_rfl) rfl (by rfl) (fun K hK => ?_)
          go_simp
          go_at_call 15
          refine (mul_f (HQV.out _ gS) (FracV.any h3' HFX.out (by omega)) (by omega)).mono ?_
          rintro _ s4 ⟨b4, A4, k4, c4, B4, l4, d4, rfl, h4', z4, _, _⟩
          have gS : Ext WP s4 := Ext.trans gS z4
          (try go_wp2_with fail)
          refine hK.out _ _ (fun _ => gS) ?_
          clear hK K
          (try simp only [Act.put, List.getElem_toArray, List.getElem_cons_succ, List.getElem_cons_zero, List.setIfInBounds_toArray, List.set_cons_zero, List.set_cons_succ])
          refine wpAnyG_one 5 (by kernel_rfl) rfl (by rfl) (fun K hK => ?_)
          go_simp
          go_at_call 24
          refine (add_f (HRV.out _ gS) (FracV.any h4' HFM.out (by omega)) HF3.out HFM.out (by omega)).mono ?_
          rw [← HSU.out]
          rintro _ s5 ⟨b5, A5, k5, c5, B5, l5, d5, rfl, h5', z5, n5, m5⟩
          have hg2 := gS.size
          have gS : Ext WP s5 := Ext.trans gS z5
          have f5 := gS
          obtain ⟨p0, p1, p2, gp0, gp1, gp2⟩ := HRB.out _ gS
          (try go_wp2_with fail)
          refine hK.out _ _ (fun _ => gS) ?_
          clear hK K
          (try simp only [Act.put, List.getElem_toArray, List.getElem_cons_succ, List.getElem_cons_zero, List.setIfInBounds_toArray, List.set_cons_zero, List.set_cons_succ])
          refine wpAnyG_one 6 (by kernel_rfl) rfl (by rfl) (fun K hK => ?_)
          go_simp
          refine hK.out _ _ (fun h => absurd h (by decide)) ?_
          clear hK K
          (try simp only [Act.put, List.getElem_toArray, List.getElem_cons_succ, List.getElem_cons_zero, List.setIfInBounds_toArray, List.set_cons_zero, List.set_cons_succ])
          refine wpAnyG_done (by kernel_rfl) ?_ _
          go_wp2
          go_roundw
          all_goals first
            | exact ⟨i + 1, by omega, by go_num, (HJS.out _ f5).put (.inl rfl) h5' n5 m5 (by omega) (by omega) (by have := jx.size; omega), (HJP.out _ f5).other (b' := X) (by omega) (.inl rfl) _ _ _, ext_put (jx.trans f5) hWX _ _ _⟩
            | (simp [intOf]; omega)
        · obtain rfl : i = zs.length := by omega
          obtain ⟨cS, AS, kS, lS, AS', kS', lS', ⟨s0, s1', s2', gs0, gs1, gs2⟩, hvS, ⟨nS, nS'⟩, _, _⟩ := iS
          obtain ⟨r0, r1, r2, g0, g1, g2⟩ := HF.out _ hx
          go_wp2
          obtain ⟨q0, q1, q2⟩ := set3 r0 r1 r2 (.bool cS) (.slice AS kS lS) (.slice AS' kS' lS')
          refine bodyPost_ret (v := .tuple #[.agg #[.bool cS, .slice AS kS lS, .slice AS' kS' lS'], .int .i64 0]) (by simp [results, Tryd.results19, go_sem, q0, q1, q2]) rfl ?_
          exact GivesFE.box (B := w.heap.size) (HE.out.trans hx) hvS (nS.mono (by omega)) (nS'.mono (by omega)) (Nat.le_refl _)

end Go.Proofs.YtnedgbebajhcpaaDoor
