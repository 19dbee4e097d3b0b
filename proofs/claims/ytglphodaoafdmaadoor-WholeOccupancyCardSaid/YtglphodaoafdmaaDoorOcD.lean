/- occupancy: Distribution. -/
import Derived.Test.YtglphodaoafdmaaDoorOcA
import Derived.Test.YtglphodaoafdmaaDoorFrlA
set_option linter.unusedVariables false
set_option linter.unusedSimpArgs false
set_option maxRecDepth 100000
namespace Go.Proofs.YtglphodaoafdmaaDoor
open Go.RowKit Num

set_option maxHeartbeats 4000000 in
theorem odist_ok {n D : Nat} {w : World} (hn : n ≤ 30) (hD1 : 1 ≤ D) (hD : D ≤ 60) :
    Calls Tryd.prog 13 #[.int .i64 n, .int .i64 D] w (GivesFL w (uptoQ (fun d => pchI n D d) (n + 1))) := by
  obtain ⟨i0, hi, hz0, hz1, hz2⟩ := info_parts info_frac
  have hw1 : IntKind.i64.wrap ((n : Int) + 1) = (n : Int) + 1 := wrap_in (by omega)
  go_enter Tryd.func13, Tryd.ntmps13
  go_wp2_with (go_at_call 48; (with_reducible refine (ocheck_ok (n := (n : Int)) (D := (D : Int)) (by omega) (by omega)).mono ?_); rintro e w1 ⟨rfl, rfl⟩)
  have hW : w1.heap.size = w1.heap.size := rfl
  go_loopw [7, 17] (fun ov iv wr => ∃ (k : Nat) (ts : List Fc), k ≤ n + 1 ∧ iv = .int .i64 k ∧ OwnF 31 w1.heap.size w1.heap.size wr ov ts (uptoQ (fun d => pchI n D d) k) ∧ Ext w1 wr)
    (fun _ iv _ => n + 1 - (intOf iv).toNat)
  case atStart => exact ⟨0, [], Nat.zero_le _, rfl, OwnF.nil_ _ _ _ _, Below.refl _ _⟩
  case round =>
    obtain ⟨k, ts, hk, rfl, hown, hx⟩ := hrel
    by_cases hkn : k < n + 1
    · have hb : (k : Int) < (n : Int) + 1 := by omega
      have HU := Lib.hid (uptoQ_length (fun d => pchI n D d) k)
      have HTS : Hid (ts.length = k) := Lib.hid (by rw [hown.1.2, HU.out])
      have HOWN := Lib.hid hown
      clear hown
      go_wp2_with (first
        | (go_at_call 49; (with_reducible refine (chance_any (n := n) (D := D) (d := (k : Int)) hn hD1 hD).mono ?_); rintro e w7 ⟨b7, A7, k7, c7, B7, l7, d7, rfl, h7, x7, n7, m7⟩)
        | (at_builtin; refine wpList_append_mine _ (by rfl) (.tmp 20) (.tmp 25) 23 (by rfl) w1.heap.size 31 i0 (.agg #[.bool false, .slice none 0 0, .slice none 0 0]) 3 56 Tryd.underlying23 hi hz0 hz1 hz2 rfl (by omega) _ _ _ (by rfl) (HOWN.out.ext (ext_alloc x7 _)).1.1 ⟨w7.heap.size, 0, none⟩ 1 1 [.bool b7, .slice A7 k7 c7, .slice B7 l7 d7] (by rfl) rfl (cell_three w7 _ _ _ _) (by simp [Value.oneCell']) (by rw [HU.out]; unfold maxLen; omega) (by rw [HU.out]; omega) (by have := hx.size; have := x7.size; simp; omega) ?_; intro v8 w8 ho8 hg8 hw8))
      have hO8 : OwnF 31 w1.heap.size w1.heap.size w8 v8 (ts ++ [⟨b7, .slice A7 k7 c7, .slice B7 l7 d7⟩]) (uptoQ (fun d => pchI n D d) (k + 1)) := by
        rw [uptoQ_succ]; exact OwnF.grow (t := ⟨b7, .slice A7 k7 c7, .slice B7 l7 d7⟩) HOWN.out (ext_alloc x7 _) (h7.below (ext_alloc (Below.refl _ _) _)) n7 m7 hx.size ho8 hg8 hw8
      have hx8 : Ext w1 w8 := OwnF.grow_ext HOWN.out hx (ext_alloc x7 _) hg8
      clear ho8 hg8 hw8 HOWN h7 x7 n7 m7
      go_wp2
      go_roundw
      case rel => exact ⟨k + 1, _, by omega, by go_num, hO8, hx8⟩
      all_goals (simp [intOf]; omega)
    · obtain rfl : k = n + 1 := by omega
      have hF := hown.fracs
      have hN : New w1.heap.size _ := fun b hb => (hown.1.1.lt b hb).1
      obtain ⟨A9, c9, rfl, _, _⟩ := hF.form
      clear hown
      rw [uptoQ_length] at hF hN ⊢
      go_wp2
      refine bodyPost_ret (v := .tuple #[.slice A9 (n + 1) c9, .int .i64 0]) (by simp [results, Tryd.results13, go_sem]) rfl ?_
      exact ⟨A9, c9, by rw [uptoQ_length], by rw [uptoQ_length]; exact hF, hx, by rw [uptoQ_length]; exact hN⟩

end Go.Proofs.YtglphodaoafdmaaDoor
