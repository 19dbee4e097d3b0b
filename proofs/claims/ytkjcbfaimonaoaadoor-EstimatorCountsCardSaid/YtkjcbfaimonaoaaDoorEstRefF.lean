/- ref42: Frequencies. -/
import Derived.Test.YtkjcbfaimonaoaaDoorEstRefI
import Derived.Test.YtkjcbfaimonaoaaDoorApp
set_option linter.unusedVariables false
set_option linter.unusedSimpArgs false
set_option maxRecDepth 100000
namespace Go.Proofs.YtkjcbfaimonaoaaDoor
open Go.RowKit Num

theorem frq_snoc (zs : List Int) (m k : Nat) : frq zs (m + 1) k = frq zs m k ++ [(((zs.take k).count ((m : Int) + 1) : Nat) : Int)] := by
  simp [frq, List.range_succ]
theorem rfreq_no {zs : List Int} {x : Value} {w : World} (hx : IntsV w x zs) (hs : ¬ Samp zs) : Calls Tryd.prog 15 #[x] w (GivesI w [] 1) := by
  go_enter Tryd.func15, Tryd.ntmps15
  go_wp2_with (go_at_call 40; (with_reducible refine (rvalid_f hx hs).mono ?_); rintro e w1 ⟨rfl, rfl⟩)
  go_ret2
  exact GivesI.none_ (Below.refl _ _)
def mxUp (zs : List Int) (i : Nat) : Int := if i = 0 then 0 else Lib.maxOf (zs.take i)
theorem mxUp_succ {zs : List Int} {i : Nat} (h : i < zs.length) (hz : 1 ≤ zs.getD i 0) : mxUp zs (i + 1) = max (mxUp zs i) (zs.getD i 0) := by
  unfold mxUp
  rw [if_neg (by omega)]
  rcases Nat.eq_zero_or_pos i with e | e
  · subst e
    rw [Lib.maxOf_one, if_pos rfl]
    omega
  · rw [if_neg (by omega), Lib.maxOf_step zs i e h]

set_option maxHeartbeats 4000000 in
theorem rfreq_ok {zs : List Int} {x : Value} {w : World} (hx : IntsV w x zs) (hs : Samp zs) : Calls Tryd.prog 15 #[x] w (GivesI w (freqs zs) 0) := by
  obtain ⟨i0, hi, hz0, hz1, hz2⟩ := info_parts info_int
  obtain ⟨A, c, rfl, hc1, hc2, _⟩ := id hx
  have HX := Lib.hid hx
  have HS := Lib.hid hs
  obtain ⟨⟨l1, l2⟩, hin, _⟩ := hs
  obtain ⟨m1, m2, m3, m4⟩ := HS.out.most
  clear hx
  go_enter Tryd.func15, Tryd.ntmps15
  go_wp2_with (go_at_call 40; (with_reducible refine (rvalid_t HX.out HS.out).mono ?_); rintro e w1 ⟨rfl, rfl⟩)
  go_loopw [4, 5] (fun nv iv wr => ∃ i : Nat, i ≤ zs.length ∧ iv = .int .i64 i ∧ nv = .int .i64 (mxUp zs i) ∧ wr = w1) (fun _ iv _ => zs.length - (intOf iv).toNat)
  case atStart => exact ⟨0, Nat.zero_le _, rfl, rfl, rfl⟩
  case round =>
    obtain ⟨i, hi', rfl, rfl, rfl⟩ := hrel
    by_cases hil : i < zs.length
    · obtain ⟨ad, rfl, hb, hc⟩ := HX.out.at_ hil
      have HM := Lib.hid (mxUp_succ hil (hin i hil).1)
      generalize zs.getD i 0 = z at *
      generalize mxUp zs i = q at *
      go_wp2
      go_roundw
      case rel => exact ⟨i + 1, by omega, by go_num, by rw [HM.out], trivial⟩
      case measure => simp [intOf]; omega
    · have : i = zs.length := by omega
      subst this
      have hmx : mxUp zs zs.length = (mostOf zs : Int) := by rw [m1]; unfold mxUp; rw [if_neg (by omega), List.take_length]
      rw [hmx]
      have HFR := Lib.hid (show freqs zs = frq zs (mostOf zs) zs.length from rfl)
      clear m1 m4 hmx
      generalize mostOf zs = m at *
      obtain ⟨W1, hW1⟩ : ∃ W1 : World, W1 = wr := ⟨_, rfl⟩
      subst hW1
      go_wp2
      go_loopw [6, 7] (fun ov kv wr => ∃ k : Nat, k ≤ m ∧ kv = .int .i64 ((k : Int) + 1) ∧ wr.ownsRow W1.heap.size 3 1 ov k (i64l (frq zs k zs.length)) ∧ Ext W1 wr) (fun _ kv _ => m + 1 - (intOf kv).toNat)
      case atStart => exact ⟨0, Nat.zero_le _, rfl, World.ownsRow_nil _ _ _ _, Below.refl _ _⟩
      case round =>
        obtain ⟨k, hk, rfl, hown, hE⟩ := hrel
        obtain ⟨OA, OC, rfl, ho1, ho2⟩ := own_slice hown
        by_cases hkm : k < m
        · have hb1 : (k : Int) + 1 ≤ m := by omega
          have HOWN := Lib.hid hown
          have HSN := Lib.hid (frq_snoc zs k zs.length)
          rw [List.take_length] at HSN
          have hf := rf_ok (k := (k : Int) + 1) (HX.out.below hE) l2
          generalize zs.count ((k : Int) + 1) = q at *
          have HF := Lib.hid hf
          clear hown hf
          go_wp2_with (first
            | (go_at_call 41; (with_reducible refine HF.out.mono ?_); rintro e w2 ⟨rfl, rfl⟩)
            | (at_builtin; refine wpList_append_mine _ (by rfl) (.tmp 28) (.tmp 32) 22 (by rfl) W1.heap.size 3 i0 (.int .i64 0) 1 8 Tryd.underlying22 hi hz0 hz1 hz2 rfl (by omega) _ _ _ (by rfl) (World.ownsRow.kept HOWN.out (Ext.grown (ext_alloc (Below.refl _ _) _)) (by cases OA <;> simp [Value.ownBlock])) ⟨w2.heap.size, 0, none⟩ 1 1 [.int .i64 q] (by rfl) rfl (cell_one w2 _ _) (by simp [Value.oneCell']) (by unfold maxLen; omega) (by omega) (by have := hE.size; simp; omega) ?_
               intro v8 w8 ho8 hg8 hw8))
          all_goals go_roundw
          all_goals first
            | (rw [i64l_snoc, ← HSN.out] at ho8
               exact ⟨k + 1, by omega, by go_num, ho8, Below.grown (ext_alloc hE _) hg8 (by have := hE.size; simp; omega) (fun b hb => (HOWN.out.lt b hb).1)⟩)
            | (simp [intOf]; omega)
        · have hke : k = m := by omega
          subst hke
          have hI : IntsV wr (.slice OA k OC) (freqs zs) := by rw [HFR.out]; exact IntsV.of_own hown
          have hN : New W1.heap.size (.slice OA k OC) := fun b hb => by have := (hown.lt b hb).1; omega
          have HLN := Lib.hid (show (freqs zs).length = k from by rw [HFR.out, frq_length])
          go_wp2
          go_ret2
          refine ⟨OA, OC, by rw [HLN.out]; rfl, ?_, hE, ?_⟩
          · rw [HLN.out]; exact hI
          · rw [HLN.out]; exact hN

end Go.Proofs.YtkjcbfaimonaoaaDoor
