/- ref42: Valid, f, total, Frequencies. -/
import Derived.Test.YtkjcbfaimonaoaaDoorEstG
set_option linter.unusedVariables false
set_option linter.unusedSimpArgs false
set_option maxRecDepth 100000
namespace Go.Proofs.YtkjcbfaimonaoaaDoor
open Go.RowKit Num

theorem rf_ok {zs : List Int} {x : Value} {k : Int} {w : World} (hx : IntsV w x zs) (hl : zs.length ≤ 64) :
    Calls Tryd.prog 41 #[x, .int .i64 k] w (fun e w' => e = .returned (.int .i64 (zs.count k)) ∧ w' = w) := by
  obtain ⟨A, c, rfl, h1, h2, h3⟩ := id hx
  clear h3
  go_enter Tryd.func41, Tryd.ntmps41
  go_wp2
  go_loopw [5, 6] (fun nv iv wr => ∃ i : Nat, i ≤ zs.length ∧ iv = .int .i64 i ∧ nv = .int .i64 ((zs.take i).count k) ∧ wr = w) (fun _ iv _ => zs.length - (intOf iv).toNat)
  case atStart => exact ⟨0, Nat.zero_le _, rfl, rfl, rfl⟩
  case round =>
    obtain ⟨i, hi, rfl, rfl, rfl⟩ := hrel
    by_cases hil : i < zs.length
    · obtain ⟨ad, rfl, hb, hc⟩ := hx.at_ hil
      have HS := Lib.hid (show (zs.take (i + 1)).count k = (zs.take i).count k + (if zs.getD i 0 = k then 1 else 0) from by
        rw [take_snoc hil, List.count_append, List.count_singleton]
        by_cases e : zs.getD i 0 = k <;> simp [e])
      have hle : (zs.take i).count k ≤ 64 := by
        have := List.count_le_length (a := k) (l := zs.take i)
        rw [List.length_take] at this
        omega
      generalize zs.getD i 0 = z at *
      generalize (zs.take i).count k = q at *
      by_cases hz : z = k
      · subst hz
        go_wp2
        go_roundw
        case rel => exact ⟨i + 1, by omega, by go_num, by rw [HS.out, if_pos rfl]; go_num, trivial⟩
        case measure => simp [intOf]; omega
      · have HSZ := Lib.hid (HS.out.trans (by rw [if_neg hz]))
        go_wp2
        go_roundw
        case rel => exact ⟨i + 1, by omega, by go_num, by rw [HSZ.out]; rfl, trivial⟩
        case measure => simp [intOf]; omega
    · have : i = zs.length := by omega
      subst this
      rw [List.take_length]
      go_wp2
      go_ret
      exact ⟨rfl, rfl⟩

theorem rtotal_ok {zs : List Int} {x : Value} {w : World} (hx : IntsV w x zs) (hs : Samp zs) :
    Calls Tryd.prog 43 #[x] w (fun e w' => e = .returned (.int .i64 zs.sum) ∧ w' = w) := by
  obtain ⟨A, c, rfl, h1, h2, h3⟩ := id hx
  clear h3
  obtain ⟨hl, hin, hsum⟩ := hs
  go_enter Tryd.func43, Tryd.ntmps43
  go_wp2
  go_loopw [3, 4] (fun nv iv wr => ∃ i : Nat, i ≤ zs.length ∧ iv = .int .i64 i ∧ nv = .int .i64 (sumUp zs i) ∧ wr = w) (fun _ iv _ => zs.length - (intOf iv).toNat)
  case atStart => exact ⟨0, Nat.zero_le _, rfl, by rw [sumUp_zero], rfl⟩
  case round =>
    obtain ⟨i, hi, rfl, rfl, rfl⟩ := hrel
    by_cases hil : i < zs.length
    · obtain ⟨ad, rfl, hb, hc⟩ := hx.at_ hil
      have HS := Lib.hid (sumUp_succ hil)
      have hle := sumUp_le hi fun j hj => hin j (by omega)
      have hz := hin i hil
      unfold InS at hz
      generalize zs.getD i 0 = z at *
      generalize sumUp zs i = q at *
      have hw1 : IntKind.i64.wrap (q + z) = q + z := wrap_in (by omega)
      go_wp2
      go_roundw
      case rel => exact ⟨i + 1, by omega, by go_num, by rw [HS.out], trivial⟩
      case measure => simp [intOf]; omega
    · have : i = zs.length := by omega
      subst this
      rw [sumUp_all]
      go_wp2
      go_ret
      exact ⟨rfl, rfl⟩

theorem bin_t {z a b : Int} {w : World} (h : a ≤ z ∧ z ≤ b) : Calls Tryd.prog 24 #[.int .i64 z, .int .i64 a, .int .i64 b] w (fun e w' => e = .returned (.bool true) ∧ w' = w) := by
  obtain ⟨h1, h2⟩ := h
  go_enter Tryd.func24, Tryd.ntmps24
  go_wp2
  go_ret
  exact ⟨rfl, rfl⟩
theorem bin_f {z a b : Int} {w : World} (h : ¬ (a ≤ z ∧ z ≤ b)) : Calls Tryd.prog 24 #[.int .i64 z, .int .i64 a, .int .i64 b] w (fun e w' => e = .returned (.bool false) ∧ w' = w) := by
  have h' : ¬ a ≤ z ∨ (a ≤ z ∧ ¬ z ≤ b) := by omega
  rcases h' with h' | ⟨h1, h'⟩
  all_goals
    go_enter Tryd.func24, Tryd.ntmps24
    go_wp2
    go_ret
    exact ⟨rfl, rfl⟩

def GivesV (P : Prop) (w : World) (e : Ending) (w' : World) : Prop := (P ∧ e = .returned (.bool true) ∨ ¬ P ∧ e = .returned (.bool false)) ∧ w' = w

set_option maxHeartbeats 2000000 in
theorem rvalid_go {zs : List Int} {x : Value} {w : World} (hx : IntsV w x zs) : Calls Tryd.prog 40 #[x] w (GivesV (Samp zs) w) := by
  obtain ⟨A, c, rfl, h1, h2, h3⟩ := id hx
  clear h3
  by_cases hl : (1 : Int) ≤ zs.length ∧ (zs.length : Int) ≤ 64
  · go_enter Tryd.func40, Tryd.ntmps40
    go_wp2_with (go_at_call 24; (with_reducible refine (bin_t hl).mono ?_); rintro e w1 ⟨rfl, rfl⟩)
    go_loopw [3, 4] (fun nv iv wr => ∃ i : Nat, i ≤ zs.length ∧ iv = .int .i64 i ∧ nv = .int .i64 (sumUp zs i) ∧ (∀ j, j < i → InS (zs.getD j 0)) ∧ wr = w1) (fun _ iv _ => zs.length - (intOf iv).toNat)
    case atStart => exact ⟨0, Nat.zero_le _, rfl, by rw [sumUp_zero], fun j hj => by omega, rfl⟩
    case round =>
      obtain ⟨i, hi, rfl, rfl, hin, rfl⟩ := hrel
      by_cases hil : i < zs.length
      · obtain ⟨ad, rfl, hb, hc⟩ := hx.at_ hil
        have HS := Lib.hid (sumUp_succ hil)
        have hle := sumUp_le hi hin
        by_cases hz : InS (zs.getD i 0)
        · have HIN := Lib.hid (show ∀ j, j < i + 1 → InS (zs.getD j 0) from fun j hj => by
            rcases Nat.lt_or_ge j i with h | h
            · exact hin j h
            · rw [show j = i from by omega]; exact hz)
          clear hin
          generalize zs.getD i 0 = z at *
          generalize sumUp zs i = q at *
          have hw1 : IntKind.i64.wrap (q + z) = q + z := wrap_in (by unfold InS at hz; omega)
          go_wp2_with (go_at_call 24; (with_reducible refine (bin_t hz).mono ?_); rintro e w2 ⟨rfl, rfl⟩)
          go_roundw
          case rel => exact ⟨i + 1, by omega, by go_num, by rw [HS.out], HIN.out, trivial⟩
          case measure => simp [intOf]; omega
        · have HNS := Lib.hid (show ¬ Samp zs from fun h => hz (h.2.1 i hil))
          clear hin
          generalize zs.getD i 0 = z at *
          go_wp2_with (go_at_call 24; (with_reducible refine (bin_f hz).mono ?_); rintro e w2 ⟨rfl, rfl⟩)
          go_ret
          exact ⟨.inr ⟨HNS.out, rfl⟩, rfl⟩
      · have : i = zs.length := by omega
        subst this
        rw [sumUp_all]
        have HIN := Lib.hid hin
        clear hin
        by_cases hsum : zs.sum ≤ 64
        · go_wp2
          go_ret
          exact ⟨.inl ⟨⟨by omega, HIN.out, hsum⟩, rfl⟩, rfl⟩
        · go_wp2
          go_ret
          exact ⟨.inr ⟨fun h => absurd h.2.2 (by omega), rfl⟩, rfl⟩
  · go_enter Tryd.func40, Tryd.ntmps40
    go_wp2_with (go_at_call 24; (with_reducible refine (bin_f hl).mono ?_); rintro e w1 ⟨rfl, rfl⟩)
    go_ret
    exact ⟨.inr ⟨fun h => hl ⟨by have := h.1; omega, by have := h.1; omega⟩, rfl⟩, rfl⟩
theorem rvalid_t {zs : List Int} {x : Value} {w : World} (hx : IntsV w x zs) (hs : Samp zs) : Calls Tryd.prog 40 #[x] w (fun e w' => e = .returned (.bool true) ∧ w' = w) :=
  (rvalid_go hx).mono fun e w' h => by
    rcases h with ⟨⟨_, h⟩ | ⟨h, _⟩, h2⟩
    · exact ⟨h, h2⟩
    · exact absurd hs h
theorem rvalid_f {zs : List Int} {x : Value} {w : World} (hx : IntsV w x zs) (hs : ¬ Samp zs) : Calls Tryd.prog 40 #[x] w (fun e w' => e = .returned (.bool false) ∧ w' = w) :=
  (rvalid_go hx).mono fun e w' h => by
    rcases h with ⟨⟨h, _⟩ | ⟨_, h⟩, h2⟩
    · exact absurd h hs
    · exact ⟨h, h2⟩

end Go.Proofs.YtkjcbfaimonaoaaDoor
