/- sampling: Split's closure where it calls itself; Split. -/
import Derived.Test.YtnedgbebajhcpaaDoorSamD
set_option linter.unusedVariables false
set_option linter.unusedSimpArgs false
set_option maxRecDepth 100000
namespace Go.Proofs.YtnedgbebajhcpaaDoor
open Go.RowKit Num

set_option maxHeartbeats 8000000 in
/-- A further number is chosen, from nothing to all that is left. -/
theorem try_succ {w0 : World} {Db Tb Y X : Nat} {A0 : Option Addr} {c0 : Nat} {D : List Nat} {k : Nat} (hD : PlanN D) (G : TryG w0 Db Tb Y X) (ih : TryC w0 Db Tb Y X (.slice A0 (natsS D).length c0) D k) :
    TryC w0 Db Tb Y X (.slice A0 (natsS D).length c0) D (k + 1) := by
  intro pre left w bs q A c hlen hsum hI hA hS
  have hxl : X < w.heap.size := by obtain ⟨_, _, _, ⟨A1, c1, h4, _⟩, _⟩ := hS; exact World.block_lt_of_cell? _ _ h4
  have hyl : Y < w.heap.size := by obtain ⟨_, _, _, _, ⟨b1, B1, k1, d1, B1', k1', d1', h8, _⟩, _⟩ := hS; exact h8.lt
  have HVS := Lib.hid (visit_succ (g := gl D) (k := k) (left := left) (pre := pre) (s := (bs, q)))
  have HDL := Lib.hid (natsS_length D)
  have HPL := Lib.hid (natsS_length pre)
  have hd4 := hD.1
  have hcap : (natsS pre).length ≤ c ∧ c ≤ 9223372036854775807 := by obtain ⟨_, _, e, h1, h2, _⟩ := hI; injection e with e1 e2 e3; subst e3; exact ⟨h1, h2⟩
  have HRD := Lib.hid (show Reads w 1 A (natsS pre).length (i64l (natsS pre)) from by obtain ⟨_, _, e, _, _, h3⟩ := hI; injection e with e1 e2 e3; subst e1; exact h3)
  obtain ⟨i0, hi, hz0, hz1, hz2⟩ := info_parts info_int
  have HS := Lib.hid hS
  obtain ⟨dm, hdm⟩ : ∃ dm : Nat, dm = D.length - 1 := ⟨_, rfl⟩
  have hw1 : IntKind.i64.wrap (((natsS D).length : Int) - 1) = (dm : Int) := by rw [wrap_in (by rw [HDL.out]; omega), HDL.out]; omega
  have hyes : decide (((natsS pre).length : Int) < (dm : Int)) = true := decide_eq_true (by rw [HPL.out]; omega)
  have hyes2 : ((natsS pre).length : Int) < (dm : Int) := by rw [HPL.out]; omega
  have HAP := Lib.hid hA
  have hnp : (natsS pre).length ≤ 4 := by rw [HPL.out]; omega
  obtain ⟨_, hcD, _, _, _, _⟩ := hS
  clear hI hA hdm
  obtain ⟨S, hSdef⟩ : ∃ S : Nat → List Nat × Rat, S = fun f => (List.range f).foldl (fun s j => visit (gl D) k (pre ++ [j]) (left - j) s) (bs, q) := ⟨_, rfl⟩
  have HSD := Lib.hid hSdef
  have HS0 := Lib.hid (show S 0 = (bs, q) from by rw [hSdef]; rfl)
  have HSS := Lib.hid (fun (f : Nat) => (show S (f + 1) = visit (gl D) k (pre ++ [f]) (left - f) (S f) from by rw [hSdef]; simp only [List.range_succ, List.foldl_append, List.foldl_cons, List.foldl_nil]))
  have HSE := Lib.hid (show S (left + 1) = visit (gl D) (k + 1) pre left (bs, q) from by rw [hSdef, HVS.out])
  clear hSdef
  go_enter Tryd.func41, Tryd.ntmps41
  go_wp2
  go_loopw [8] (fun iv wr => ∃ f : Nat, f ≤ left + 1 ∧ iv = .int .i64 f ∧ TryS w0 Db Tb Y X (.slice A0 (natsS D).length c0) wr (S f).1 (S f).2 ∧ TExt X Y w wr) (fun iv _ => left + 2 - (intOf iv).toNat)
  case atStart => exact ⟨0, Nat.zero_le _, rfl, by rw [HS0.out]; exact HS.out, TExt.refl _ _ _⟩
  case round =>
    clear hcD
    obtain ⟨f, hf, rfl, hTS, hT⟩ := hrel
    have HTS := Lib.hid hTS
    obtain ⟨_, hcD, hcT, _, _, _⟩ := hTS
    by_cases hfl : f ≤ left
    · have hb1 : (f : Int) ≤ (left : Int) := by omega
      have hw2 : IntKind.i64.wrap ((f : Int) + 1) = (f : Int) + 1 := wrap_in (by omega)
      have hw3 : IntKind.i64.wrap ((left : Int) - (f : Int)) = (left : Int) - (f : Int) := wrap_in (by omega)
      have hl2 : (natsS pre).length + 1 = (natsS (pre ++ [f])).length := by rw [natsS_snoc, List.length_append]; rfl
      have HSF := Lib.hid (show visit (gl D) k (pre ++ [f]) (left - f) ((S f).1, (S f).2) = S (f + 1) from (HSS.out f).symm)
      have HSF := Lib.hid HSF.out.symm
      have HRW := Lib.hid (HRD.out.text hT HAP.out)
      have hsz := hT.size
      have HSZ := Lib.hid hcT
      have HS' := Lib.hid (fun (w' : World) (h : Ext wr w') => ((h.cell (World.block_lt_of_cell? _ _ hcT)).trans hcT : w'.cell? ⟨Tb, 0, none⟩ = some (tryF Db Tb Y X)))
      have HS := HS'
      have hxr : X < wr.heap.size := by omega
      have hyr : Y < wr.heap.size := by omega
      clear hcD hcT
      go_upto_region 4 with (fail)
      refine wp_region_G (fun w' => Ext wr w') [9] (by kernel_rfl) ?_
      have gS : Ext wr wr.drew := (Below.refl _ _).drew
      refine wpAnyG_take 0 (v := ?_) rfl (by kernel_rfl) (by kernel_rfl) (by kernel_rfl) (by kernel_rfl) (by rfl) (by kernel_rfl) (fun _ _ _ h => h) (by rfl) (fun w' hw' => ?_) gS ?_
      rotate_left
      focus (have hh := HS.out _ hw'; go_split_ands; go_simp; (try with_reducible rfl); done)
      (try simp only [Act.put, List.getElem_toArray, List.getElem_cons_succ, List.getElem_cons_zero, List.setIfInBounds_toArray, List.set_cons_zero, List.set_cons_succ])
      refine wpAnyG_take 1 (v := ?_) rfl (by kernel_rfl) (by kernel_rfl) (by kernel_rfl) (by kernel_rfl) (by rfl) (by kernel_rfl) (fun _ _ _ h => h) (by rfl) (fun w' hw' => ?_) gS ?_
      rotate_left
      focus (go_simp; (try with_reducible rfl); done)
      (try simp only [Act.put, List.getElem_toArray, List.getElem_cons_succ, List.getElem_cons_zero, List.setIfInBounds_toArray, List.set_cons_zero, List.set_cons_succ])
      refine wpAnyG_take 3 (v := ?_) rfl (by kernel_rfl) (by kernel_rfl) (by kernel_rfl) (by kernel_rfl) (by rfl) (by kernel_rfl) (fun _ _ _ h => h) (by rfl) (fun w' hw' => ?_) gS ?_
      rotate_left
      focus (go_simp; (try with_reducible rfl); done)
      (try simp only [Act.put, List.getElem_toArray, List.getElem_cons_succ, List.getElem_cons_zero, List.setIfInBounds_toArray, List.set_cons_zero, List.set_cons_succ])
      refine wpAnyG_take 6 (v := ?_) rfl (by kernel_rfl) (by kernel_rfl) (by kernel_rfl) (by kernel_rfl) (by rfl) (by kernel_rfl) (fun _ _ _ h => h) (by rfl) (fun w' hw' => ?_) gS ?_
      rotate_left
      focus (go_simp; (try with_reducible rfl); done)
      (try simp only [Act.put, List.getElem_toArray, List.getElem_cons_succ, List.getElem_cons_zero, List.setIfInBounds_toArray, List.set_cons_zero, List.set_cons_succ])
      refine wpAnyG_take 7 (v := ?_) rfl (by kernel_rfl) (by kernel_rfl) (by kernel_rfl) (by kernel_rfl) (by rfl) (by kernel_rfl) (fun _ _ _ h => h) (by rfl) (fun w' hw' => ?_) gS ?_
      rotate_left
      focus (go_simp; (try with_reducible rfl); done)
      (try simp only [Act.put, List.getElem_toArray, List.getElem_cons_succ, List.getElem_cons_zero, List.setIfInBounds_toArray, List.set_cons_zero, List.set_cons_succ])
      refine wpAnyG_take 8 (v := ?_) rfl (by kernel_rfl) (by kernel_rfl) (by kernel_rfl) (by kernel_rfl) (by rfl) (by kernel_rfl) (fun _ _ _ h => h) (by rfl) (fun w' hw' => ?_) gS ?_
      rotate_left
      focus (go_simp; (try with_reducible rfl); done)
      (try simp only [Act.put, List.getElem_toArray, List.getElem_cons_succ, List.getElem_cons_zero, List.setIfInBounds_toArray, List.set_cons_zero, List.set_cons_succ])
      refine wpAnyG_two 2 4 (by kernel_rfl) rfl rfl (by rfl) (by rfl) (fun K hK => ?_) (fun K hK => ?_)
      · go_simp
        go_at_call 42
        refine (clip_s hcap.1 hcap.2).mono ?_
        rintro _ s1 ⟨rfl, rfl⟩
        (try go_wp2_with fail)
        refine hK.out _ _ (fun _ => gS) ?_
        clear hK K
        (try simp only [Act.put, List.getElem_toArray, List.getElem_cons_succ, List.getElem_cons_zero, List.setIfInBounds_toArray, List.set_cons_zero, List.set_cons_succ])
        refine wpAnyG_one 4 (by kernel_rfl) rfl (by rfl) (fun K hK => ?_)
        go_simp
        have gS := ext_alloc gS (.cells #[.int .i64 (f : Int)] 3)
        (try go_wp2_with fail)
        refine hK.out _ _ (fun _ => gS) ?_
        clear hK K
        (try simp only [Act.put, List.getElem_toArray, List.getElem_cons_succ, List.getElem_cons_zero, List.setIfInBounds_toArray, List.set_cons_zero, List.set_cons_succ])
        refine wpAnyG_one 5 (by kernel_rfl) rfl (by rfl) (fun K hK => ?_)
        refine wp_append_full _ (.tmp 23) (.tmp 25) 36 rfl 3 i0 (.int .i64 0) 1 8 Tryd.underlying36 hi hz0 hz1 hz2 rfl (by omega) A (some ⟨wr.heap.size, 0, none⟩) (natsS pre).length 1 1 (i64l (natsS pre)) (i64l [(f : Int)]) rfl rfl (HRW.out.alloc _) (cells_one1 _ _ _) (by simp [i64l, Value.oneCell']) (by unfold maxLen; omega) (by omega) ?_
        intro ao' cap' w8 g1 g2 g3 g4 g5
        have e8 : Ext wr w8 := Ext.trans (Below.drew (ext_alloc (Below.refl _ _) _)) g4
        have gS : Ext wr w8 := e8
        have hI8 : IntsV w8 (.slice ao' (natsS (pre ++ [f])).length cap') (natsS (pre ++ [f])) := ⟨ao', cap', rfl, by rw [← hl2]; exact g1, g2, by rw [← hl2, natsS_snoc, ← i64l_snoc]; exact g3⟩
        have hA8 : Apart X Y (.slice ao' (natsS (pre ++ [f])).length cap') := by
          intro g hg
          cases hao : ao' with
          | none => rw [hao] at hg; cases hg
          | some ad =>
            rw [hao] at hg
            have hgb : g = ad.block := by simp [Value.ownBlock] at hg; exact hg.symm
            rcases g5 ad hao with h | h
            · exact HAP.out g (by rw [h, hgb]; simp [Value.ownBlock])
            · have : wr.heap.size + 1 ≤ ad.block := by simpa using h
              omega
        have HIH := Lib.hid (ih (pre ++ [f]) (left - f) w8 _ _ ao' cap' (by rw [List.length_append]; simp; omega) (by rw [List.sum_append]; simp; omega) hI8 hA8 (HTS.out.ext e8))
        rw [show ((left - f : Nat) : Int) = (left : Int) - (f : Int) from by omega] at HIH
        clear g1 g2 g3 g5 hI8 hA8
        (try go_wp2_with fail)
        refine hK.out _ _ (fun _ => gS) ?_
        clear hK K
        (try simp only [Act.put, List.getElem_toArray, List.getElem_cons_succ, List.getElem_cons_zero, List.setIfInBounds_toArray, List.set_cons_zero, List.set_cons_succ])
        refine wpAnyG_one 9 (by kernel_rfl) rfl (by rfl) (fun K hK => ?_)
        (try simp only [List.getElem_toArray, List.getElem_cons_succ, List.getElem_cons_zero])
        go_simp
        go_at_call 41
        refine HIH.out.mono ?_
        rintro _ w9 ⟨rfl, hS9, hT9⟩
        refine hK.out _ _ (fun h => absurd h (by decide)) ?_
        clear hK K
        (try simp only [Act.put, List.getElem_toArray, List.getElem_cons_succ, List.getElem_cons_zero, List.setIfInBounds_toArray, List.set_cons_zero, List.set_cons_succ])
        refine wpAnyG_done (by kernel_rfl) ?_ _
        go_wp2
        go_roundw
        all_goals first
          | exact ⟨f + 1, by omega, by go_num, by rw [HSF.out]; exact hS9, (hT.trans (TExt.of_ext e8)).trans hT9⟩
          | (simp [intOf]; omega)
      · go_simp
        have gS := ext_alloc gS (.cells #[.int .i64 (f : Int)] 3)
        (try go_wp2_with fail)
        refine hK.out _ _ (fun _ => gS) ?_
        clear hK K
        (try simp only [Act.put, List.getElem_toArray, List.getElem_cons_succ, List.getElem_cons_zero, List.setIfInBounds_toArray, List.set_cons_zero, List.set_cons_succ])
        refine wpAnyG_one 2 (by kernel_rfl) rfl (by rfl) (fun K hK => ?_)
        go_simp
        go_at_call 42
        refine (clip_s hcap.1 hcap.2).mono ?_
        rintro _ s1 ⟨rfl, rfl⟩
        (try go_wp2_with fail)
        refine hK.out _ _ (fun _ => gS) ?_
        clear hK K
        (try simp only [Act.put, List.getElem_toArray, List.getElem_cons_succ, List.getElem_cons_zero, List.setIfInBounds_toArray, List.set_cons_zero, List.set_cons_succ])
        refine wpAnyG_one 5 (by kernel_rfl) rfl (by rfl) (fun K hK => ?_)
        refine wp_append_full _ (.tmp 23) (.tmp 25) 36 rfl 3 i0 (.int .i64 0) 1 8 Tryd.underlying36 hi hz0 hz1 hz2 rfl (by omega) A (some ⟨wr.heap.size, 0, none⟩) (natsS pre).length 1 1 (i64l (natsS pre)) (i64l [(f : Int)]) rfl rfl (HRW.out.alloc _) (cells_one1 _ _ _) (by simp [i64l, Value.oneCell']) (by unfold maxLen; omega) (by omega) ?_
        intro ao' cap' w8 g1 g2 g3 g4 g5
        have e8 : Ext wr w8 := Ext.trans (Below.drew (ext_alloc (Below.refl _ _) _)) g4
        have gS : Ext wr w8 := e8
        have hI8 : IntsV w8 (.slice ao' (natsS (pre ++ [f])).length cap') (natsS (pre ++ [f])) := ⟨ao', cap', rfl, by rw [← hl2]; exact g1, g2, by rw [← hl2, natsS_snoc, ← i64l_snoc]; exact g3⟩
        have hA8 : Apart X Y (.slice ao' (natsS (pre ++ [f])).length cap') := by
          intro g hg
          cases hao : ao' with
          | none => rw [hao] at hg; cases hg
          | some ad =>
            rw [hao] at hg
            have hgb : g = ad.block := by simp [Value.ownBlock] at hg; exact hg.symm
            rcases g5 ad hao with h | h
            · exact HAP.out g (by rw [h, hgb]; simp [Value.ownBlock])
            · have : wr.heap.size + 1 ≤ ad.block := by simpa using h
              omega
        have HIH := Lib.hid (ih (pre ++ [f]) (left - f) w8 _ _ ao' cap' (by rw [List.length_append]; simp; omega) (by rw [List.sum_append]; simp; omega) hI8 hA8 (HTS.out.ext e8))
        rw [show ((left - f : Nat) : Int) = (left : Int) - (f : Int) from by omega] at HIH
        clear g1 g2 g3 g5 hI8 hA8
        (try go_wp2_with fail)
        refine hK.out _ _ (fun _ => gS) ?_
        clear hK K
        (try simp only [Act.put, List.getElem_toArray, List.getElem_cons_succ, List.getElem_cons_zero, List.setIfInBounds_toArray, List.set_cons_zero, List.set_cons_succ])
        refine wpAnyG_one 9 (by kernel_rfl) rfl (by rfl) (fun K hK => ?_)
        (try simp only [List.getElem_toArray, List.getElem_cons_succ, List.getElem_cons_zero])
        go_simp
        go_at_call 41
        refine HIH.out.mono ?_
        rintro _ w9 ⟨rfl, hS9, hT9⟩
        refine hK.out _ _ (fun h => absurd h (by decide)) ?_
        clear hK K
        (try simp only [Act.put, List.getElem_toArray, List.getElem_cons_succ, List.getElem_cons_zero, List.setIfInBounds_toArray, List.set_cons_zero, List.set_cons_succ])
        refine wpAnyG_done (by kernel_rfl) ?_ _
        go_wp2
        go_roundw
        all_goals first
          | exact ⟨f + 1, by omega, by go_num, by rw [HSF.out]; exact hS9, (hT.trans (TExt.of_ext e8)).trans hT9⟩
          | (simp [intOf]; omega)
    · obtain rfl : f = left + 1 := by omega
      have hb1 : ¬ (((left + 1 : Nat) : Int) ≤ (left : Int)) := by omega
      have hb2 : ¬ ((left : Int) + 1 ≤ (left : Int)) := by omega
      go_wp2
      ((try simp only [Exit.inBlock, Exit.then]); refine bodyPost_ret (results_none rfl _ _ _) rfl ?_)
      exact ⟨rfl, by rw [← HSE.out]; exact HTS.out, hT⟩

theorem try_all {w0 : World} {Db Tb Y X : Nat} {A0 : Option Addr} {c0 : Nat} {D : List Nat} (hD : PlanN D) (hvD : IntsV w0 (.slice A0 (natsS D).length c0) (natsS D)) (G : TryG w0 Db Tb Y X) (ht : Tab10 w0) :
    ∀ k, TryC w0 Db Tb Y X (.slice A0 (natsS D).length c0) D k
  | 0 => try_zero hD hvD G ht
  | k + 1 => try_succ hD G (try_all hD hvD G ht k)

theorem planN_in {D : List Nat} (hD : PlanN D) : (1 ≤ (natsS D).length ∧ (natsS D).length ≤ 4) ∧ PlanIn (natsS D) := by
  refine ⟨by rw [natsS_length]; exact hD.1, fun u hu => ?_⟩
  obtain ⟨d, hd, rfl⟩ := List.mem_map.1 hu
  have := hD.2 d hd
  omega

end Go.Proofs.YtnedgbebajhcpaaDoor
