/- ref42: Valid, f, total, Frequencies. ref42: Index. ref42: Frequencies. ref42: errors of Coverage, Chao, Jackknife, Carter; Coverage, Carter. -/
import Derived.Test.YtkjcbfaimonaoaaDoorEst
import Derived.Test.YtkjcbfaimonaoaaDoorRFrac
import Derived.Deep.RegionHeld3
import Derived.Deep.RegionLaw
import Derived.Test.YtkjcbfaimonaoaaDoorNatural
set_option linter.unusedVariables false
set_option linter.unusedSimpArgs false
set_option maxRecDepth 100000
namespace Go.Proofs.YtkjcbfaimonaoaaDoor
open Go.RowKit Num

theorem rf_ok {zs : List Int} {x : Value} {k : Int} {w : World} (hx : IntsV w x zs) (hl : zs.length ≤ 64) :
    Calls Tryd.prog 41 #[x, .int .i64 k] w (fun e w' => e = .returned (.int .i64 (zs.count k)) ∧ w' = w) := by
  obtain ⟨A, c, rfl, h1, h2, h3⟩ := id hx
  clear h3
  go_enter Tryd.func41, Tryd.ntmps41
  go_wp2
  go_loopw [5, 6] (fun nv iv wr => ∃ i : Nat, i ≤ zs.length ∧ iv = .int .i64 i ∧ nv = .int .i64 ((zs.take i).count k) ∧ wr = w) (fun _ iv _ => zs.length - (intOf iv).toNat)
  case atStart => exact ⟨0, Nat.zero_le _, rfl, rfl, rfl⟩
  case round =>
    obtain ⟨i, hi, rfl, rfl, rfl⟩ := hrel
    by_cases hil : i < zs.length
    · obtain ⟨ad, rfl, hb, hc⟩ := hx.at_ hil
      have HS := Lib.hid (show (zs.take (i + 1)).count k = (zs.take i).count k + (if zs.getD i 0 = k then 1 else 0) from by
        rw [take_snoc hil, List.count_append, List.count_singleton]
        by_cases e : zs.getD i 0 = k <;> simp [e])
      have hle : (zs.take i).count k ≤ 64 := by
        have := List.count_le_length (a := k) (l := zs.take i)
        rw [List.length_take] at this
        omega
      generalize zs.getD i 0 = z at *
      generalize (zs.take i).count k = q at *
      by_cases hz : z = k
      · subst hz
        go_wp2
        go_roundw
        case rel => exact ⟨i + 1, by omega, by go_num, by rw [HS.out, if_pos rfl]; go_num, trivial⟩
        case measure => simp [intOf]; omega
      · have HSZ := Lib.hid (HS.out.trans (by rw [if_neg hz]))
        go_wp2
        go_roundw
        case rel => exact ⟨i + 1, by omega, by go_num, by rw [HSZ.out]; rfl, trivial⟩
        case measure => simp [intOf]; omega
    · have : i = zs.length := by omega
      subst this
      rw [List.take_length]
      go_wp2
      go_ret
      exact ⟨rfl, rfl⟩

theorem rtotal_ok {zs : List Int} {x : Value} {w : World} (hx : IntsV w x zs) (hs : Samp zs) :
    Calls Tryd.prog 43 #[x] w (fun e w' => e = .returned (.int .i64 zs.sum) ∧ w' = w) := by
  obtain ⟨A, c, rfl, h1, h2, h3⟩ := id hx
  clear h3
  obtain ⟨hl, hin, hsum⟩ := hs
  go_enter Tryd.func43, Tryd.ntmps43
  go_wp2
  go_loopw [3, 4] (fun nv iv wr => ∃ i : Nat, i ≤ zs.length ∧ iv = .int .i64 i ∧ nv = .int .i64 (sumUp zs i) ∧ wr = w) (fun _ iv _ => zs.length - (intOf iv).toNat)
  case atStart => exact ⟨0, Nat.zero_le _, rfl, by rw [sumUp_zero], rfl⟩
  case round =>
    obtain ⟨i, hi, rfl, rfl, rfl⟩ := hrel
    by_cases hil : i < zs.length
    · obtain ⟨ad, rfl, hb, hc⟩ := hx.at_ hil
      have HS := Lib.hid (sumUp_succ hil)
      have hle := sumUp_le hi fun j hj => hin j (by omega)
      have hz := hin i hil
      unfold InS at hz
      generalize zs.getD i 0 = z at *
      generalize sumUp zs i = q at *
      have hw1 : IntKind.i64.wrap (q + z) = q + z := wrap_in (by omega)
      go_wp2
      go_roundw
      case rel => exact ⟨i + 1, by omega, by go_num, by rw [HS.out], trivial⟩
      case measure => simp [intOf]; omega
    · have : i = zs.length := by omega
      subst this
      rw [sumUp_all]
      go_wp2
      go_ret
      exact ⟨rfl, rfl⟩

theorem bin_t {z a b : Int} {w : World} (h : a ≤ z ∧ z ≤ b) : Calls Tryd.prog 24 #[.int .i64 z, .int .i64 a, .int .i64 b] w (fun e w' => e = .returned (.bool true) ∧ w' = w) := by
  obtain ⟨h1, h2⟩ := h
  go_enter Tryd.func24, Tryd.ntmps24
  go_wp2
  go_ret
  exact ⟨rfl, rfl⟩
theorem bin_f {z a b : Int} {w : World} (h : ¬ (a ≤ z ∧ z ≤ b)) : Calls Tryd.prog 24 #[.int .i64 z, .int .i64 a, .int .i64 b] w (fun e w' => e = .returned (.bool false) ∧ w' = w) := by
  have h' : ¬ a ≤ z ∨ (a ≤ z ∧ ¬ z ≤ b) := by omega
  rcases h' with h' | ⟨h1, h'⟩
  all_goals
    go_enter Tryd.func24, Tryd.ntmps24
    go_wp2
    go_ret
    exact ⟨rfl, rfl⟩

def GivesV (P : Prop) (w : World) (e : Ending) (w' : World) : Prop := (P ∧ e = .returned (.bool true) ∨ ¬ P ∧ e = .returned (.bool false)) ∧ w' = w

set_option maxHeartbeats 2000000 in
theorem rvalid_go {zs : List Int} {x : Value} {w : World} (hx : IntsV w x zs) : Calls Tryd.prog 40 #[x] w (GivesV (Samp zs) w) := by
  obtain ⟨A, c, rfl, h1, h2, h3⟩ := id hx
  clear h3
  by_cases hl : (1 : Int) ≤ zs.length ∧ (zs.length : Int) ≤ 64
  · go_enter Tryd.func40, Tryd.ntmps40
    go_wp2_with (go_at_call 24; (with_reducible refine (bin_t hl).mono ?_); rintro e w1 ⟨rfl, rfl⟩)
    go_loopw [3, 4] (fun nv iv wr => ∃ i : Nat, i ≤ zs.length ∧ iv = .int .i64 i ∧ nv = .int .i64 (sumUp zs i) ∧ (∀ j, j < i → InS (zs.getD j 0)) ∧ wr = w1) (fun _ iv _ => zs.length - (intOf iv).toNat)
    case atStart => exact ⟨0, Nat.zero_le _, rfl, by rw [sumUp_zero], fun j hj => by omega, rfl⟩
    case round =>
      obtain ⟨i, hi, rfl, rfl, hin, rfl⟩ := hrel
      by_cases hil : i < zs.length
      · obtain ⟨ad, rfl, hb, hc⟩ := hx.at_ hil
        have HS := Lib.hid (sumUp_succ hil)
        have hle := sumUp_le hi hin
        by_cases hz : InS (zs.getD i 0)
        · have HIN := Lib.hid (show ∀ j, j < i + 1 → InS (zs.getD j 0) from fun j hj => by
            rcases Nat.lt_or_ge j i with h | h
            · exact hin j h
            · rw [show j = i from by omega]; exact hz)
          clear hin
          generalize zs.getD i 0 = z at *
          generalize sumUp zs i = q at *
          have hw1 : IntKind.i64.wrap (q + z) = q + z := wrap_in (by unfold InS at hz; omega)
          go_wp2_with (go_at_call 24; (with_reducible refine (bin_t hz).mono ?_); rintro e w2 ⟨rfl, rfl⟩)
          go_roundw
          case rel => exact ⟨i + 1, by omega, by go_num, by rw [HS.out], HIN.out, trivial⟩
          case measure => simp [intOf]; omega
        · have HNS := Lib.hid (show ¬ Samp zs from fun h => hz (h.2.1 i hil))
          clear hin
          generalize zs.getD i 0 = z at *
          go_wp2_with (go_at_call 24; (with_reducible refine (bin_f hz).mono ?_); rintro e w2 ⟨rfl, rfl⟩)
          go_ret
          exact ⟨.inr ⟨HNS.out, rfl⟩, rfl⟩
      · have : i = zs.length := by omega
        subst this
        rw [sumUp_all]
        have HIN := Lib.hid hin
        clear hin
        by_cases hsum : zs.sum ≤ 64
        · go_wp2
          go_ret
          exact ⟨.inl ⟨⟨by omega, HIN.out, hsum⟩, rfl⟩, rfl⟩
        · go_wp2
          go_ret
          exact ⟨.inr ⟨fun h => absurd h.2.2 (by omega), rfl⟩, rfl⟩
  · go_enter Tryd.func40, Tryd.ntmps40
    go_wp2_with (go_at_call 24; (with_reducible refine (bin_f hl).mono ?_); rintro e w1 ⟨rfl, rfl⟩)
    go_ret
    exact ⟨.inr ⟨fun h => hl ⟨by have := h.1; omega, by have := h.1; omega⟩, rfl⟩, rfl⟩
theorem rvalid_t {zs : List Int} {x : Value} {w : World} (hx : IntsV w x zs) (hs : Samp zs) : Calls Tryd.prog 40 #[x] w (fun e w' => e = .returned (.bool true) ∧ w' = w) :=
  (rvalid_go hx).mono fun e w' h => by
    rcases h with ⟨⟨_, h⟩ | ⟨h, _⟩, h2⟩
    · exact ⟨h, h2⟩
    · exact absurd hs h
theorem rvalid_f {zs : List Int} {x : Value} {w : World} (hx : IntsV w x zs) (hs : ¬ Samp zs) : Calls Tryd.prog 40 #[x] w (fun e w' => e = .returned (.bool false) ∧ w' = w) :=
  (rvalid_go hx).mono fun e w' h => by
    rcases h with ⟨⟨h, _⟩ | ⟨_, h⟩, h2⟩
    · exact absurd h hs
    · exact ⟨h, h2⟩

end Go.Proofs.YtkjcbfaimonaoaaDoor
namespace Go.Proofs.YtkjcbfaimonaoaaDoor
open Go.RowKit Num

set_option maxHeartbeats 2000000 in
theorem rindex_no {zs : List Int} {x : Value} {w : World} (hx : IntsV w x zs) (hs : ¬ Samp zs) : Calls Tryd.prog 17 #[x] w (GivesFN w 1) := by
  go_enter Tryd.func17, Tryd.ntmps17
  go_upto_region 1 with (fail)
  have hF0 := FBox.new w (.bool false) (.slice none 0 0) (.slice none 0 0) 32
  have x0 : Ext w (w.alloc (.cells #[.bool false, .slice none 0 0, .slice none 0 0] 32)) := ext_alloc (Below.refl _ _) _
  have hX := hx.below x0
  generalize w.alloc (.cells #[.bool false, .slice none 0 0, .slice none 0 0] 32) = W0 at *
  obtain ⟨r0, r1, r2, g0, g1, g2⟩ := hF0
  go_wp2_with (go_at_call 40; (with_reducible refine (rvalid_f hX hs).mono ?_); rintro e w1 ⟨rfl, rfl⟩)
  obtain ⟨q0, q1, q2⟩ := set3 r0 r1 r2 (.bool false) (.slice none 0 0) (.slice none 0 0)
  refine bodyPost_ret (v := .tuple #[.agg #[.bool false, .slice none 0 0, .slice none 0 0], .int .i64 1]) (by simp [results, Tryd.results17, go_sem, q0, q1, q2]) rfl ?_
  exact ⟨rfl, ext_put x0 (Nat.le_refl _) _ _ _⟩

set_option maxHeartbeats 2000000 in
theorem rindex_ok {zs : List Int} {x : Value} {w : World} (hx : IntsV w x zs) (hs : Samp zs) : Calls Tryd.prog 17 #[x] w (GivesFE w ((zs.sum : Rat) / (((zs.length : Nat) : Int) : Rat))) := by
  have HS := Lib.hid hs
  have HB := Lib.hid (show (0 : Int) ≤ zs.sum ∧ zs.sum ≤ 64 from by
    have := sumUp_le (Nat.le_refl _) hs.2.1
    rw [sumUp_all] at this
    exact ⟨by omega, hs.2.2⟩)
  have HL := Lib.hid hs.1
  obtain ⟨A, c, rfl, hc1, hc2, _⟩ := id hx
  go_enter Tryd.func17, Tryd.ntmps17
  go_upto_region 1 with (fail)
  have hF0 := FBox.new w (.bool false) (.slice none 0 0) (.slice none 0 0) 32
  have x0 : Ext w (w.alloc (.cells #[.bool false, .slice none 0 0, .slice none 0 0] 32)) := ext_alloc (Below.refl _ _) _
  have hX := hx.below x0
  have hs0 : w.heap.size + 1 ≤ (w.alloc (.cells #[.bool false, .slice none 0 0, .slice none 0 0] 32)).heap.size := by simp
  generalize w.alloc (.cells #[.bool false, .slice none 0 0, .slice none 0 0] 32) = W0 at *
  have HF := Lib.hid (fun (w' : World) (h : Ext W0 w') => hF0.below h)
  have HX := Lib.hid hX
  obtain ⟨r0, r1, r2, g0, g1, g2⟩ := hF0
  clear hs hx hX
  go_wp2_with (first
    | (go_at_call 40; (with_reducible refine (rvalid_t HX.out HS.out).mono ?_); rintro e w1 ⟨rfl, rfl⟩)
    | (go_at_call 43; (with_reducible refine (rtotal_ok HX.out HS.out).mono ?_); rintro e w1 ⟨rfl, rfl⟩)
    | (go_at_call 42; (with_reducible refine (rfof_n (n := zs.sum) (d := (zs.length : Int)) (by have := HB.out; omega) (by have := HL.out; omega)).mono ?_); rintro e s3 ⟨b3, A3, k3, c3, B3, l3, d3, rfl, h3, z3, n3, m3⟩; obtain ⟨r0, r1, r2, g0, g1, g2⟩ := HF.out _ z3))
  obtain ⟨q0, q1, q2⟩ := set3 r0 r1 r2 (.bool b3) (.slice A3 k3 c3) (.slice B3 l3 d3)
  refine bodyPost_ret (v := .tuple #[.agg #[.bool b3, .slice A3 k3 c3, .slice B3 l3 d3], .int .i64 0]) (by simp [results, Tryd.results17, go_sem, q0, q1, q2]) rfl ?_
  exact GivesFE.box (x0.trans z3) h3 (n3.mono (by omega)) (m3.mono (by omega)) (Nat.le_refl _)

end Go.Proofs.YtkjcbfaimonaoaaDoor
namespace Go.Proofs.YtkjcbfaimonaoaaDoor
open Go.RowKit Num

theorem frq_snoc (zs : List Int) (m k : Nat) : frq zs (m + 1) k = frq zs m k ++ [(((zs.take k).count ((m : Int) + 1) : Nat) : Int)] := by
  simp [frq, List.range_succ]
theorem rfreq_no {zs : List Int} {x : Value} {w : World} (hx : IntsV w x zs) (hs : ¬ Samp zs) : Calls Tryd.prog 15 #[x] w (GivesI w [] 1) := by
  go_enter Tryd.func15, Tryd.ntmps15
  go_wp2_with (go_at_call 40; (with_reducible refine (rvalid_f hx hs).mono ?_); rintro e w1 ⟨rfl, rfl⟩)
  go_ret2
  exact GivesI.none_ (Below.refl _ _)
def mxUp (zs : List Int) (i : Nat) : Int := if i = 0 then 0 else Lib.maxOf (zs.take i)
theorem mxUp_succ {zs : List Int} {i : Nat} (h : i < zs.length) (hz : 1 ≤ zs.getD i 0) : mxUp zs (i + 1) = max (mxUp zs i) (zs.getD i 0) := by
  unfold mxUp
  rw [if_neg (by omega)]
  rcases Nat.eq_zero_or_pos i with e | e
  · subst e
    rw [Lib.maxOf_one, if_pos rfl]
    omega
  · rw [if_neg (by omega), Lib.maxOf_step zs i e h]

set_option maxHeartbeats 4000000 in
theorem rfreq_ok {zs : List Int} {x : Value} {w : World} (hx : IntsV w x zs) (hs : Samp zs) : Calls Tryd.prog 15 #[x] w (GivesI w (freqs zs) 0) := by
  obtain ⟨i0, hi, hz0, hz1, hz2⟩ := info_parts info_int
  obtain ⟨A, c, rfl, hc1, hc2, _⟩ := id hx
  have HX := Lib.hid hx
  have HS := Lib.hid hs
  obtain ⟨⟨l1, l2⟩, hin, _⟩ := hs
  obtain ⟨m1, m2, m3, m4⟩ := HS.out.most
  clear hx
  go_enter Tryd.func15, Tryd.ntmps15
  go_wp2_with (go_at_call 40; (with_reducible refine (rvalid_t HX.out HS.out).mono ?_); rintro e w1 ⟨rfl, rfl⟩)
  go_loopw [4, 5] (fun nv iv wr => ∃ i : Nat, i ≤ zs.length ∧ iv = .int .i64 i ∧ nv = .int .i64 (mxUp zs i) ∧ wr = w1) (fun _ iv _ => zs.length - (intOf iv).toNat)
  case atStart => exact ⟨0, Nat.zero_le _, rfl, rfl, rfl⟩
  case round =>
    obtain ⟨i, hi', rfl, rfl, rfl⟩ := hrel
    by_cases hil : i < zs.length
    · obtain ⟨ad, rfl, hb, hc⟩ := HX.out.at_ hil
      have HM := Lib.hid (mxUp_succ hil (hin i hil).1)
      generalize zs.getD i 0 = z at *
      generalize mxUp zs i = q at *
      go_wp2
      go_roundw
      case rel => exact ⟨i + 1, by omega, by go_num, by rw [HM.out], trivial⟩
      case measure => simp [intOf]; omega
    · have : i = zs.length := by omega
      subst this
      have hmx : mxUp zs zs.length = (mostOf zs : Int) := by rw [m1]; unfold mxUp; rw [if_neg (by omega), List.take_length]
      rw [hmx]
      have HFR := Lib.hid (show freqs zs = frq zs (mostOf zs) zs.length from rfl)
      clear m1 m4 hmx
      generalize mostOf zs = m at *
      obtain ⟨W1, hW1⟩ : ∃ W1 : World, W1 = wr := ⟨_, rfl⟩
      subst hW1
      go_wp2
      go_loopw [6, 7] (fun ov kv wr => ∃ k : Nat, k ≤ m ∧ kv = .int .i64 ((k : Int) + 1) ∧ wr.ownsRow W1.heap.size 3 1 ov k (i64l (frq zs k zs.length)) ∧ Ext W1 wr) (fun _ kv _ => m + 1 - (intOf kv).toNat)
      case atStart => exact ⟨0, Nat.zero_le _, rfl, World.ownsRow_nil _ _ _ _, Below.refl _ _⟩
      case round =>
        obtain ⟨k, hk, rfl, hown, hE⟩ := hrel
        obtain ⟨OA, OC, rfl, ho1, ho2⟩ := own_slice hown
        by_cases hkm : k < m
        · have hb1 : (k : Int) + 1 ≤ m := by omega
          have HOWN := Lib.hid hown
          have HSN := Lib.hid (frq_snoc zs k zs.length)
          rw [List.take_length] at HSN
          have hf := rf_ok (k := (k : Int) + 1) (HX.out.below hE) l2
          generalize zs.count ((k : Int) + 1) = q at *
          have HF := Lib.hid hf
          clear hown hf
          go_wp2_with (first
            | (go_at_call 41; (with_reducible refine HF.out.mono ?_); rintro e w2 ⟨rfl, rfl⟩)
            | (at_builtin; refine wpList_append_mine _ (by rfl) (.tmp 28) (.tmp 32) 22 (by rfl) W1.heap.size 3 i0 (.int .i64 0) 1 8 Tryd.underlying22 hi hz0 hz1 hz2 rfl (by omega) _ _ _ (by rfl) (World.ownsRow.kept HOWN.out (Ext.grown (ext_alloc (Below.refl _ _) _)) (by cases OA <;> simp [Value.ownBlock])) ⟨w2.heap.size, 0, none⟩ 1 1 [.int .i64 q] (by rfl) rfl (cell_one w2 _ _) (by simp [Value.oneCell']) (by unfold maxLen; omega) (by omega) (by have := hE.size; simp; omega) ?_
               intro v8 w8 ho8 hg8 hw8))
          all_goals go_roundw
          all_goals first
            | (rw [i64l_snoc, ← HSN.out] at ho8
               exact ⟨k + 1, by omega, by go_num, ho8, Below.grown (ext_alloc hE _) hg8 (by have := hE.size; simp; omega) (fun b hb => (HOWN.out.lt b hb).1)⟩)
            | (simp [intOf]; omega)
        · have hke : k = m := by omega
          subst hke
          have hI : IntsV wr (.slice OA k OC) (freqs zs) := by rw [HFR.out]; exact IntsV.of_own hown
          have hN : New W1.heap.size (.slice OA k OC) := fun b hb => by have := (hown.lt b hb).1; omega
          have HLN := Lib.hid (show (freqs zs).length = k from by rw [HFR.out, frq_length])
          go_wp2
          go_ret2
          refine ⟨OA, OC, by rw [HLN.out]; rfl, ?_, hE, ?_⟩
          · rw [HLN.out]; exact hI
          · rw [HLN.out]; exact hN

end Go.Proofs.YtkjcbfaimonaoaaDoor
namespace Go.Proofs.YtkjcbfaimonaoaaDoor
open Go.RowKit Num

set_option maxHeartbeats 2000000 in
theorem rcov_no {zs : List Int} {x : Value} {w : World} (hx : IntsV w x zs) (hs : ¬ Samp zs) : Calls Tryd.prog 21 #[x] w (GivesFN w 1) := by
  go_enter Tryd.func21, Tryd.ntmps21
  go_upto_region 1 with (fail)
  have hF0 := FBox.new w (.bool false) (.slice none 0 0) (.slice none 0 0) 32
  have x0 : Ext w (w.alloc (.cells #[.bool false, .slice none 0 0, .slice none 0 0] 32)) := ext_alloc (Below.refl _ _) _
  have hs0 : w.heap.size + 1 ≤ (w.alloc (.cells #[.bool false, .slice none 0 0, .slice none 0 0] 32)).heap.size := by simp
  generalize w.alloc (.cells #[.bool false, .slice none 0 0, .slice none 0 0] 32) = W0 at *
  have HF := Lib.hid (fun (w' : World) (h : Ext W0 w') => hF0.below h)
  have HE := Lib.hid x0
  have f0 : Ext W0 W0 := Below.refl _ _
  obtain ⟨r0, r1, r2, g0, g1, g2⟩ := hF0
  clear x0
  have hX := hx.below HE.out
  go_wp2_with (go_at_call 40; (with_reducible refine (rvalid_f hX hs).mono ?_); rintro e w1 ⟨rfl, rfl⟩)
  obtain ⟨q0, q1, q2⟩ := set3 r0 r1 r2 (.bool false) (.slice none 0 0) (.slice none 0 0)
  refine bodyPost_ret (v := .tuple #[.agg #[.bool false, .slice none 0 0, .slice none 0 0], .int .i64 1]) (by simp [results, Tryd.results21, go_sem, q0, q1, q2]) rfl ?_
  exact ⟨rfl, ext_put HE.out (Nat.le_refl _) _ _ _⟩

set_option maxHeartbeats 2000000 in
theorem rchao_no {zs : List Int} {x : Value} {w : World} (hx : IntsV w x zs) (hs : ¬ Samp zs) : Calls Tryd.prog 29 #[x] w (GivesFN w 1) := by
  go_enter Tryd.func29, Tryd.ntmps29
  go_upto_region 1 with (fail)
  have hF0 := FBox.new w (.bool false) (.slice none 0 0) (.slice none 0 0) 32
  have x0 : Ext w (w.alloc (.cells #[.bool false, .slice none 0 0, .slice none 0 0] 32)) := ext_alloc (Below.refl _ _) _
  have hs0 : w.heap.size + 1 ≤ (w.alloc (.cells #[.bool false, .slice none 0 0, .slice none 0 0] 32)).heap.size := by simp
  generalize w.alloc (.cells #[.bool false, .slice none 0 0, .slice none 0 0] 32) = W0 at *
  have HF := Lib.hid (fun (w' : World) (h : Ext W0 w') => hF0.below h)
  have HE := Lib.hid x0
  have f0 : Ext W0 W0 := Below.refl _ _
  obtain ⟨r0, r1, r2, g0, g1, g2⟩ := hF0
  clear x0
  have hX := hx.below HE.out
  go_wp2_with (go_at_call 40; (with_reducible refine (rvalid_f hX hs).mono ?_); rintro e w1 ⟨rfl, rfl⟩)
  obtain ⟨q0, q1, q2⟩ := set3 r0 r1 r2 (.bool false) (.slice none 0 0) (.slice none 0 0)
  refine bodyPost_ret (v := .tuple #[.agg #[.bool false, .slice none 0 0, .slice none 0 0], .int .i64 1]) (by simp [results, Tryd.results29, go_sem, q0, q1, q2]) rfl ?_
  exact ⟨rfl, ext_put HE.out (Nat.le_refl _) _ _ _⟩

set_option maxHeartbeats 2000000 in
theorem rjack_no {zs : List Int} {x : Value} {w : World} (hx : IntsV w x zs) (hs : ¬ Samp zs) : Calls Tryd.prog 31 #[x] w (GivesFN w 1) := by
  go_enter Tryd.func31, Tryd.ntmps31
  go_upto_region 1 with (fail)
  have hF0 := FBox.new w (.bool false) (.slice none 0 0) (.slice none 0 0) 32
  have x0 : Ext w (w.alloc (.cells #[.bool false, .slice none 0 0, .slice none 0 0] 32)) := ext_alloc (Below.refl _ _) _
  have hs0 : w.heap.size + 1 ≤ (w.alloc (.cells #[.bool false, .slice none 0 0, .slice none 0 0] 32)).heap.size := by simp
  generalize w.alloc (.cells #[.bool false, .slice none 0 0, .slice none 0 0] 32) = W0 at *
  have HF := Lib.hid (fun (w' : World) (h : Ext W0 w') => hF0.below h)
  have HE := Lib.hid x0
  have f0 : Ext W0 W0 := Below.refl _ _
  obtain ⟨r0, r1, r2, g0, g1, g2⟩ := hF0
  clear x0
  have hX := hx.below HE.out
  go_wp2_with (go_at_call 40; (with_reducible refine (rvalid_f hX hs).mono ?_); rintro e w1 ⟨rfl, rfl⟩)
  obtain ⟨q0, q1, q2⟩ := set3 r0 r1 r2 (.bool false) (.slice none 0 0) (.slice none 0 0)
  refine bodyPost_ret (v := .tuple #[.agg #[.bool false, .slice none 0 0, .slice none 0 0], .int .i64 1]) (by simp [results, Tryd.results31, go_sem, q0, q1, q2]) rfl ?_
  exact ⟨rfl, ext_put HE.out (Nat.le_refl _) _ _ _⟩

set_option maxHeartbeats 2000000 in
theorem rcart_no {zs : List Int} {x : Value} {w : World} (hx : IntsV w x zs) (hs : ¬ Samp zs) : Calls Tryd.prog 33 #[x] w (GivesFN w 1) := by
  go_enter Tryd.func33, Tryd.ntmps33
  go_upto_region 1 with (fail)
  have hF0 := FBox.new w (.bool false) (.slice none 0 0) (.slice none 0 0) 32
  have x0 : Ext w (w.alloc (.cells #[.bool false, .slice none 0 0, .slice none 0 0] 32)) := ext_alloc (Below.refl _ _) _
  have hs0 : w.heap.size + 1 ≤ (w.alloc (.cells #[.bool false, .slice none 0 0, .slice none 0 0] 32)).heap.size := by simp
  generalize w.alloc (.cells #[.bool false, .slice none 0 0, .slice none 0 0] 32) = W0 at *
  have HF := Lib.hid (fun (w' : World) (h : Ext W0 w') => hF0.below h)
  have HE := Lib.hid x0
  have f0 : Ext W0 W0 := Below.refl _ _
  obtain ⟨r0, r1, r2, g0, g1, g2⟩ := hF0
  clear x0
  have hX := hx.below HE.out
  go_wp2_with (go_at_call 40; (with_reducible refine (rvalid_f hX hs).mono ?_); rintro e w1 ⟨rfl, rfl⟩)
  obtain ⟨q0, q1, q2⟩ := set3 r0 r1 r2 (.bool false) (.slice none 0 0) (.slice none 0 0)
  refine bodyPost_ret (v := .tuple #[.agg #[.bool false, .slice none 0 0, .slice none 0 0], .int .i64 1]) (by simp [results, Tryd.results33, go_sem, q0, q1, q2]) rfl ?_
  exact ⟨rfl, ext_put HE.out (Nat.le_refl _) _ _ _⟩

set_option maxHeartbeats 2000000 in
theorem rcov_ok {zs : List Int} {x : Value} {w : World} (hx : IntsV w x zs) (hs : Samp zs) : Calls Tryd.prog 21 #[x] w (GivesFE w (((zs.sum - (zs.count 1 : Int) : Int) : Rat) / (zs.sum : Rat))) := by
  have HS := Lib.hid hs
  have hB9 : (0 : Int) ≤ zs.sum ∧ zs.sum ≤ 64 := by
    have := sumUp_le (Nat.le_refl _) hs.2.1
    rw [sumUp_all] at this
    exact ⟨by omega, hs.2.2⟩
  have hL9 := hs.1
  have hO9 : ∀ k : Int, zs.count k ≤ 64 := fun k => Nat.le_trans List.count_le_length hL9.2
  have hO := hO9 1
  clear hO9
  have hw1 : IntKind.i64.wrap (zs.sum - (zs.count 1 : Int)) = zs.sum - (zs.count 1 : Int) := wrap_in (by omega)
  have HB1 := Lib.hid (show -9223372036854775808 ≤ zs.sum - (zs.count 1 : Int) ∧ zs.sum - (zs.count 1 : Int) ≤ 9223372036854775807 from by omega)
  have HB2 := Lib.hid (show -9223372036854775808 ≤ zs.sum ∧ zs.sum ≤ 9223372036854775807 from by omega)
  obtain ⟨q, hq⟩ : ∃ q : Rat, q = ((zs.sum - (zs.count 1 : Int) : Int) : Rat) / (zs.sum : Rat) := ⟨_, rfl⟩
  rw [← hq]
  have HQ := Lib.hid hq
  clear hq
  obtain ⟨A, c, rfl, hc1, hc2, _⟩ := id hx
  go_enter Tryd.func21, Tryd.ntmps21
  go_upto_region 1 with (fail)
  have hF0 := FBox.new w (.bool false) (.slice none 0 0) (.slice none 0 0) 32
  have x0 : Ext w (w.alloc (.cells #[.bool false, .slice none 0 0, .slice none 0 0] 32)) := ext_alloc (Below.refl _ _) _
  have hs0 : w.heap.size + 1 ≤ (w.alloc (.cells #[.bool false, .slice none 0 0, .slice none 0 0] 32)).heap.size := by simp
  generalize w.alloc (.cells #[.bool false, .slice none 0 0, .slice none 0 0] 32) = W0 at *
  have HF := Lib.hid (fun (w' : World) (h : Ext W0 w') => hF0.below h)
  have HE := Lib.hid x0
  have f0 : Ext W0 W0 := Below.refl _ _
  obtain ⟨r0, r1, r2, g0, g1, g2⟩ := hF0
  clear x0
  have hX := hx.below HE.out
  have HX := Lib.hid hX
  clear hs hx hX
  go_wp2_with (first
    | (go_at_call 40; (with_reducible refine (rvalid_t HX.out HS.out).mono ?_); rintro e w1 ⟨rfl, rfl⟩)
    | (go_at_call 41; (with_reducible refine (rf_ok HX.out hL9.2).mono ?_); rintro e w1 ⟨rfl, rfl⟩)
    | (go_at_call 43; (with_reducible refine (rtotal_ok HX.out HS.out).mono ?_); rintro e w1 ⟨rfl, rfl⟩)
    | (go_at_call 42; (with_reducible refine (rfof_n HB1.out HB2.out).mono ?_); rintro e s3 ⟨b3, A3, k3, c3, B3, l3, d3, rfl, h3, z3, n3, m3⟩; obtain ⟨r0, r1, r2, g0, g1, g2⟩ := HF.out _ z3))
  all_goals
    obtain ⟨q0, q1, q2⟩ := set3 r0 r1 r2 (.bool b3) (.slice A3 k3 c3) (.slice B3 l3 d3)
    refine bodyPost_ret (v := .tuple #[.agg #[.bool b3, .slice A3 k3 c3, .slice B3 l3 d3], .int .i64 0]) (by simp [results, Tryd.results21, go_sem, q0, q1, q2]) rfl ?_
    exact GivesFE.box (HE.out.trans z3) (by rw [HQ.out]; exact h3) (n3.mono (by omega)) (m3.mono (by omega)) (Nat.le_refl _)


end Go.Proofs.YtkjcbfaimonaoaaDoor
