/- fraction.Text of a positive fraction of one limb each. -/
import Derived.Test.YtbplkienkhinmaaGreatDoorFracS
import Derived.Test.YtbplkienkhinmaaGreatDoorText
set_option linter.unusedVariables false
set_option linter.unusedSimpArgs false
set_option maxRecDepth 100000
namespace Go.Proofs.YtbplkienkhinmaaGreatDoor
open Go.RowKit Num

def ftxt (n d : Nat) : List UInt8 := if d = 1 then Lib.decDigits n else Lib.decDigits n ++ 47 :: Lib.decDigits d

theorem digits_one {d : Nat} (h : Lib.decDigits d = [49]) : d = 1 := by
  by_cases hd : d < 10
  · rw [Lib.decDigits, dif_pos hd] at h
    rcases (by omega : d = 0 ∨ d = 1 ∨ d = 2 ∨ d = 3 ∨ d = 4 ∨ d = 5 ∨ d = 6 ∨ d = 7 ∨ d = 8 ∨ d = 9) with e | e | e | e | e | e | e | e | e | e <;> subst e <;> first | rfl | (exact absurd h (by decide))
  · exfalso
    have := congrArg List.length h
    rw [Lib.decDigits_length, Lib.nDigits_big hd] at this
    have := Lib.nDigits_pos (d / 10)
    simp at *
    omega

set_option maxHeartbeats 4000000 in
theorem ftext_f {b : Bool} {s t : Value} {q : Rat} {L n d : Nat} {w : World} (hx : AnyF w b s t q L) (hL : L ≤ 549755813887) (hpos : decide (q < 0) = false) (hqn : q.num.natAbs = n) (hqd : q.den = d) (hn0 : 0 < n) (hn : n < 1000000000) (hd : d < 1000000000) (htab : Tab10 w) :
    Calls Tryz.prog 16 #[.agg #[.bool b, s, t]] w (fun e w' => e = .returned (.string ⟨(ftxt n d).toArray⟩) ∧ Ext w w') := by
  have hd0 : 0 < d := hqd ▸ q.den_pos
  have HN0 := Lib.hid hn0
  have HD0 := Lib.hid hd0
  have HLI := Lib.hid hL
  have HFN := Lib.hid (show Fit n from by unfold Fit; rw [limbsOf_one hn0 hn]; simp)
  have HFD := Lib.hid (show Fit d from by unfold Fit; rw [limbsOf_one hd0 hd]; simp)
  have HNN := Lib.hid hn
  have HDD := Lib.hid hd
  have HQN := Lib.hid hqn
  have HQD := Lib.hid hqd
  clear hL hn hd hn0 hd0 hqn hqd
  have hcase : d = 1 ∨ d ≠ 1 := by omega
  rcases hcase with rfl | hne
  · rw [show ftxt n 1 = Lib.decDigits n from by simp [ftxt]]
    have e1 : (ByteArray.mk (Lib.decDigits 1).toArray) = ⟨#[49]⟩ := by rw [Lib.decDigits, dif_pos (by decide)]; rfl
    go_enter Tryz.func16, Tryz.ntmps16
    go_upto_region 1 with (fail)
    have hX0 := FBox.new w (.bool b) s t 27
    have x0 : Ext w (w.alloc (.cells #[.bool b, s, t] 27)) := ext_alloc (Below.refl _ _) _
    have hs0 : w.heap.size + 1 ≤ (w.alloc (.cells #[.bool b, s, t] 27)).heap.size := by simp
    generalize w.alloc (.cells #[.bool b, s, t] 27) = W0 at *
    have HX := Lib.hid (fun (w' : World) (h : Ext W0 w') => hX0.below h)
    have HE := Lib.hid x0
    have HA := Lib.hid (hx.below x0)
    obtain ⟨cx0, cx1, cx2, _, _, _⟩ := hX0
    clear x0 hx
    go_upto_region 2 with (go_at_call 37; (with_reducible refine (norm_f HA.out HLI.out).mono ?_); rintro e s3 ⟨b3, A3, k3, c3, B3, l3, d3, rfl, h3, z3, n3, m3⟩; obtain ⟨r0, r1, r2, g0, g1, g2⟩ := HX.out _ z3)
    have hB := (HX.out _ z3).put (.bool b3) (.slice A3 k3 c3) (.slice B3 l3 d3)
    have hV := h3.put (n3.mono hs0) (m3.mono hs0) (Nat.lt_succ_self w.heap.size) (.bool b3) (.slice A3 k3 c3) (.slice B3 l3 d3)
    have hE := ext_put (HE.out.trans z3) (Nat.le_refl _) (.bool b3) (.slice A3 k3 c3) (.slice B3 l3 d3)
    clear cx0 cx1 cx2 r0 r1 r2 g0 g1 g2 h3 z3 n3 m3
    generalize ((s3.setCell ⟨w.heap.size, 0, none⟩ (.bool b3)).setCell ⟨w.heap.size, 1, none⟩ (.slice A3 k3 c3)).setCell ⟨w.heap.size, 2, none⟩ (.slice B3 l3 d3) = W1 at *
    have HB := Lib.hid (fun (w' : World) (h : Ext W1 w') => hB.below h)
    obtain ⟨r0, r1, r2, g0, g1, g2⟩ := hB
    obtain ⟨hb3, hv1, hv2⟩ := hV
    rw [hpos] at hb3
    rw [HQN.out] at hv1
    rw [HQD.out] at hv2
    subst hb3
    have HN := Lib.hid (hv1.nat HFN.out)
    have HD := Lib.hid (hv2.nat HFD.out)
    have HE1 := Lib.hid hE
    have HT1 := Lib.hid (htab.ext hE)
    clear hv1 hv2 hE htab
    go_upto_region 6 with (first
      | (go_at_call 38; (with_reducible refine (text_oneV HN.out HN0.out HNN.out HT1.out).mono ?_); rintro e s4 ⟨rfl, z4⟩; obtain ⟨r0, r1, r2, g0, g1, g2⟩ := HB.out _ z4)
      | (go_at_call 38; (with_reducible refine (text_oneV (NatV.below HD.out z4) HD0.out HDD.out (Tab10.ext HT1.out z4)).mono ?_); rintro e s5 ⟨rfl, z5⟩))
    go_wp2
    go_ret
    exact ⟨rfl, HE1.out.trans (z4.trans z5)⟩
  · rw [show ftxt n d = Lib.decDigits n ++ 47 :: Lib.decDigits d from by simp [ftxt, hne]]
    have e1 : (Lib.decDigits d == [49]) = false := by
      cases hh : (Lib.decDigits d == [49]) with
      | false => rfl
      | true => exact absurd (digits_one (eq_of_beq hh)) hne
    have e2 : ¬ 9223372036854775807 < 1 + (Lib.decDigits d).length := by have := digits_le9 HDD.out; omega
    have e3 : ¬ 9223372036854775807 < (Lib.decDigits n).length + (1 + (Lib.decDigits d).length) := by have := digits_le9 HDD.out; have := digits_le9 HNN.out; omega
    go_enter Tryz.func16, Tryz.ntmps16
    go_upto_region 1 with (fail)
    have hX0 := FBox.new w (.bool b) s t 27
    have x0 : Ext w (w.alloc (.cells #[.bool b, s, t] 27)) := ext_alloc (Below.refl _ _) _
    have hs0 : w.heap.size + 1 ≤ (w.alloc (.cells #[.bool b, s, t] 27)).heap.size := by simp
    generalize w.alloc (.cells #[.bool b, s, t] 27) = W0 at *
    have HX := Lib.hid (fun (w' : World) (h : Ext W0 w') => hX0.below h)
    have HE := Lib.hid x0
    have HA := Lib.hid (hx.below x0)
    obtain ⟨cx0, cx1, cx2, _, _, _⟩ := hX0
    clear x0 hx
    go_upto_region 2 with (go_at_call 37; (with_reducible refine (norm_f HA.out HLI.out).mono ?_); rintro e s3 ⟨b3, A3, k3, c3, B3, l3, d3, rfl, h3, z3, n3, m3⟩; obtain ⟨r0, r1, r2, g0, g1, g2⟩ := HX.out _ z3)
    have hB := (HX.out _ z3).put (.bool b3) (.slice A3 k3 c3) (.slice B3 l3 d3)
    have hV := h3.put (n3.mono hs0) (m3.mono hs0) (Nat.lt_succ_self w.heap.size) (.bool b3) (.slice A3 k3 c3) (.slice B3 l3 d3)
    have hE := ext_put (HE.out.trans z3) (Nat.le_refl _) (.bool b3) (.slice A3 k3 c3) (.slice B3 l3 d3)
    clear cx0 cx1 cx2 r0 r1 r2 g0 g1 g2 h3 z3 n3 m3
    generalize ((s3.setCell ⟨w.heap.size, 0, none⟩ (.bool b3)).setCell ⟨w.heap.size, 1, none⟩ (.slice A3 k3 c3)).setCell ⟨w.heap.size, 2, none⟩ (.slice B3 l3 d3) = W1 at *
    have HB := Lib.hid (fun (w' : World) (h : Ext W1 w') => hB.below h)
    obtain ⟨r0, r1, r2, g0, g1, g2⟩ := hB
    obtain ⟨hb3, hv1, hv2⟩ := hV
    rw [hpos] at hb3
    rw [HQN.out] at hv1
    rw [HQD.out] at hv2
    subst hb3
    have HN := Lib.hid (hv1.nat HFN.out)
    have HD := Lib.hid (hv2.nat HFD.out)
    have HE1 := Lib.hid hE
    have HT1 := Lib.hid (htab.ext hE)
    clear hv1 hv2 hE htab
    go_upto_region 6 with (first
      | (go_at_call 38; (with_reducible refine (text_oneV HN.out HN0.out HNN.out HT1.out).mono ?_); rintro e s4 ⟨rfl, z4⟩; obtain ⟨r0, r1, r2, g0, g1, g2⟩ := HB.out _ z4)
      | (go_at_call 38; (with_reducible refine (text_oneV (NatV.below HD.out z4) HD0.out HDD.out (Tab10.ext HT1.out z4)).mono ?_); rintro e s5 ⟨rfl, z5⟩))
    go_wp2
    go_ret
    exact ⟨rfl, HE1.out.trans (z4.trans z5)⟩

end Go.Proofs.YtbplkienkhinmaaGreatDoor
