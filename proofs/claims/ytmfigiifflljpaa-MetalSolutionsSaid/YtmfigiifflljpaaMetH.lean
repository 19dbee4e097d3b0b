/- metal: the reference's Solve. -/
import Derived.Test.YtmfigiifflljpaaMetS
import Derived.Test.YtmfigiifflljpaaMetL
import Derived.Test.YtmfigiifflljpaaMetZ
set_option linter.unusedVariables false
set_option linter.unusedSimpArgs false
set_option maxRecDepth 100000
namespace Go.Proofs.Ytmfigiifflljpaa
open Go.RowKit Num

/-- append of any slice to a row of the call's own, at a step. -/
theorem wp_append_row {P : Program} {Q : Exit → Act → World → Prop} (w : World) {o : Oper} {a : Act} {K : Act → World → Prop} (s x : Operand) (t : TypeId)
    (hop : o.op = .call { callee := .builtin .append, args := #[s, x], argTypes := #[t, t] })
    (base : Nat) (e : TypeId) (i : TypeInfo) (z : Value) (size bytes : Nat) (ht : P.underlying t = some (.slice e)) (hi : P.info? e = some i) (hz : i.zero = some z)
    (hsize : i.size = size) (hby : i.bytes = bytes) (hzs : z.cells.size = size) (hsz : 0 < size)
    (v : Value) (n : Nat) (xs : List Value) (hs : a.eval s = v) (hown : w.ownsRow base e size v n xs)
    (ao : Option Addr) (m c : Nat) (news : List Value) (hx : a.eval x = .slice ao m c) (hr : Reads w size ao m news) (h1 : ∀ u ∈ news, u.oneCell' = true)
    (h63 : n + m ≤ maxLen) (hbytes : (n + m) * bytes ≤ 140737488355328) (hbase : base ≤ w.heap.size)
    (h : ∀ v' w', w'.ownsRow base e size v' (n + m) (xs ++ news) → w.grownBy w' v.ownBlock → (v'.ownBlock = v.ownBlock ∨ New w.heap.size v') → K (a.put o.dst v') w') :
    Oper.wp P o a w K Q := by
  cases ao with
  | some ad =>
    refine wp_append_mine w s x t hop base e i z size bytes ht hi hz hsize hby hzs hsz v n xs hs hown ad m c news hx hr.1 (fun j u hu => ?_) h1 h63 hbytes hbase h
    have hm : 0 < m := by
      have h2 := (List.getElem?_eq_some_iff.1 hu).1
      have h3 := hr.1
      rcases Nat.eq_zero_or_pos m with h | h
      · subst h; omega
      · exact h
    obtain ⟨ad', e', _, hc⟩ := hr.2 hm
    cases e'
    exact hc j u hu
  | none =>
    have hm : m = 0 := by
      rcases Nat.eq_zero_or_pos m with h | h
      · exact h
      · obtain ⟨ad, e', _⟩ := hr.2 h
        cases e'
    subst hm
    obtain rfl : news = [] := List.eq_nil_of_length_eq_zero (by have := hr.1; omega)
    have hrun : (Builtin.append_ #[t, t] o.type #[v, .slice none 0 c]).run P w = .ok v w := by
      rcases hown.2 with ⟨rfl, rfl⟩ | ⟨g, cap, cur, rfl, _, _, hnc, _⟩
      · simp [Builtin.append_, run_underlying ht, sizeOf, typeInfo, hi, Builtin.lenOf, Builtin.firstCells]
      · simp [Builtin.append_, run_underlying ht, sizeOf, typeInfo, hi, Builtin.lenOf, Builtin.firstCells, hnc, storeCells]
    unfold Oper.wp
    simp [execOp, hop, resolve, invoke, builtin, hs, hx, hrun, Result.andThen]
    exact h v w (by rw [List.append_nil, Nat.add_zero]; exact hown) ⟨rfl, rfl, rfl, Nat.le_refl _, fun _ _ _ => rfl⟩ (.inl rfl)
theorem last_at {l : List Nat} {N : Nat} (h : 0 < l.length) : N = l.getD (l.length - 1) 0 ↔ l.getLast? = some N := by
  rw [List.getLast?_eq_getElem?, List.getD_eq_getElem?_getD]
  obtain ⟨x, hx⟩ : ∃ x, l[l.length - 1]? = some x := ⟨_, List.getElem?_eq_getElem (by omega)⟩
  rw [hx]
  constructor
  · intro h; rw [h]; rfl
  · intro h; cases h; rfl
theorem leadD {l : List Nat} {i : Nat} (h : i < l.length) : (l.map (fun l : Nat => (l : Int))).getD i 0 = ((l.getD i 0 : Nat) : Int) := by
  rw [leadI (x := l.getD i 0)]
  rw [List.getD_eq_getElem?_getD, List.getElem?_eq_getElem h]
  rfl
set_option maxHeartbeats 8000000 in
theorem rsolve_ok {K : Bool} {v x : Value} {n N L : Nat} {A : Mx} {b : Nat → Rat} {w : World} (hv : EMat K w v n N A) (hb : EFs K w x n b) (hfb : FBm A n N L) (hfx : ∀ k, k < n → FB (b k) L) (hL3 : 3 ≤ L) (hL : L ≤ 1000) (hn : n ≤ 8) (hN : N ≤ 8) (hz : n = 0 → N = 0) :
    Calls Try.prog 25 #[v, x] w (GivesL w (solN (rrefs (wide A b N) n (N + 1)) N) (fun i => (rrefs (wide A b N) n (N + 1)).m i N) (solE (rrefs (wide A b N) n (N + 1)) N)) := by
  have HVA := Lib.hid (hv.rvalid hn hN)
  have HCO := Lib.hid (fun (w' : World) (h : Ext w w') => (hv.below h).rcols hz)
  have HV := Lib.hid (fun (w' : World) (h : Ext w w') => hv.below h)
  have HX := Lib.hid (fun (w' : World) (h : Ext w w') => hb.below h)
  have HX0 := Lib.hid hb
  have HV0 := Lib.hid hv
  have HFW := Lib.hid (show FBm (wide A b N) n (N + 1) L from fun i j hi hj => by
    unfold wide
    split
    · exact hfb i j hi (by omega)
    · exact hfx i hi)
  obtain ⟨C, hC⟩ : ∃ C, C = if n = 0 then 0 else N + 1 := ⟨_, rfl⟩
  have hC9 : C ≤ 9 := by rw [hC]; split <;> omega
  have hCz : n = 0 → C = 0 := fun h => by rw [hC, if_pos h]
  have HCn := Lib.hid (show n ≠ 0 → C = N + 1 from fun h => by rw [hC, if_neg h])
  have HZN := Lib.hid hz
  have HFC := Lib.hid (show FBm (wide A b N) n C L from fun i j hi hj => HFW.out i j hi (by rw [hC] at hj; split at hj <;> omega))
  have HCz := Lib.hid hCz
  obtain ⟨AV, cap, rfl, hc1, hc2⟩ := hv.form
  obtain ⟨A0, c0, rfl, hc3, hc4⟩ := hb.form
  obtain ⟨i0, hi, hz0, hz1, hz2⟩ := info_parts info_frac
  obtain ⟨j0, hj, hy0, hy1, hy2⟩ := info_parts info_fl
  have hnn : ((n : Int) != (n : Int)) = false := by simp
  obtain ⟨R, hR⟩ : ∃ R, R = rrefs (wide A b N) n (N + 1) := ⟨_, rfl⟩
  have HR := Lib.hid hR
  rw [← hR]
  clear hv hb hfb hfx hz hC hCz hR
  go_enter Try.func25, Try.ntmps25
  go_wp2_with (first
    | (go_at_call 22; (with_reducible refine HVA.out.mono ?_); rintro e w1 ⟨rfl, x1⟩)
    | (go_at_call 52; (with_reducible refine (HCO.out _ x1).mono ?_); rintro e w2 ⟨rfl, hw2⟩; obtain rfl : w1 = w2 := hw2.symm))
  go_loopw [7, 8] (fun mv iv wr => ∃ (k : Nat) (us : List Value), k ≤ n ∧ iv = .int .i64 k ∧ Hid (MatO K w.heap.size wr mv k (N + 1) us us (wide A b N)) ∧ Ext w wr) (fun _ iv _ => n - (intOf iv).toNat)
  case atStart => exact ⟨0, [], Nat.zero_le _, rfl, Lib.hid (MatO.nil_ _ _ _ _ _), x1⟩
  case round =>
    obtain ⟨k, us, hk, rfl, HM, hx⟩ := hrel
    by_cases hkn : k < n
    · obtain ⟨bb, ob, A1, cp1, rfl, hbl, hcell, hrow⟩ := (HV0.out).at_ hkn
      obtain ⟨ts, hts⟩ := hrow.named
      have HTS := Lib.hid hts.ent
      have HTR := Lib.hid (fun (w' : World) (h : Ext wr w') => show Reads w' 3 A1 N (fcells ts) from by
        obtain ⟨A9, c9, e, _, _, _, h5, _⟩ := hts.below (hx.trans h)
        injection e with e1 e2 e3
        rw [e1]
        exact h5)
      have HONE := Lib.hid (fcells_one (ts := ts) fun t ht => by
        obtain ⟨k, hk⟩ := List.getElem?_of_mem ht
        obtain ⟨A1, k1, c1, A2, k2, c2, e1, e2⟩ := (hts.ent.2 k t hk).form
        rw [e1, e2]
        exact ⟨rfl, rfl⟩)
      obtain ⟨bx, ox, nb, B1, q1, r1, B2, q2, r2, rfl, hbx, e0, e1, e2, hbe⟩ := (HX0.out).at_ hkn
      have HB0 := Lib.hid hbe
      have HS := Lib.hid (fun (w' : World) (h : Ext wr w') => (⟨((hx.trans h).cell (p := ⟨bb, ob + k, none⟩) hbl).trans hcell, ((hx.trans h).cell (p := ⟨bx, ox + k * 3, none⟩) hbx).trans e0, ((hx.trans h).cell (p := ⟨bx, ox + k * 3 + 1, none⟩) hbx).trans e1, ((hx.trans h).cell (p := ⟨bx, ox + k * 3 + 2, none⟩) hbx).trans e2⟩ : w'.cell? ⟨bb, ob + k, none⟩ = some (.slice A1 N cp1) ∧ w'.cell? ⟨bx, ox + k * 3, none⟩ = some (.bool nb) ∧ w'.cell? ⟨bx, ox + k * 3 + 1, none⟩ = some (.slice B1 q1 r1) ∧ w'.cell? ⟨bx, ox + k * 3 + 2, none⟩ = some (.slice B2 q2 r2)))
      have hi1 : (0 : Int) ≤ (k : Int) := by omega
      have hi2 : (k : Int) < (n : Int) := by omega
      clear hrow hts e0 e1 e2 hbe hcell
      go_upto_region 8 with (fail)
      refine wp_region_G (fun w' => Ext wr w') [14, 15] (by kernel_rfl) ?_
      have gS : Ext wr wr.drew := (Below.refl _ _).drew
      refine wpAnyG_take 0 (v := ?_) rfl (by kernel_rfl) (by kernel_rfl) (by kernel_rfl) (by kernel_rfl) (by rfl) (by kernel_rfl) (fun _ _ _ h => h) (by rfl) (fun w' hw' => ?_) gS ?_
      rotate_left
      focus (go_simp; (try with_reducible rfl); done)
      (try simp only [Act.put, List.getElem_toArray, List.getElem_cons_succ, List.getElem_cons_zero, List.setIfInBounds_toArray, List.set_cons_zero, List.set_cons_succ])
      refine wpAnyG_take 2 (v := ?_) rfl (by kernel_rfl) (by kernel_rfl) (by kernel_rfl) (by kernel_rfl) (by rfl) (by kernel_rfl) (fun _ _ _ h => h) (by rfl) (fun w' hw' => ?_) gS ?_
      rotate_left
      focus (go_simp; (try with_reducible rfl); done)
      (try simp only [Act.put, List.getElem_toArray, List.getElem_cons_succ, List.getElem_cons_zero, List.setIfInBounds_toArray, List.set_cons_zero, List.set_cons_succ])
      refine wpAnyG_take 3 (v := ?_) rfl (by kernel_rfl) (by kernel_rfl) (by kernel_rfl) (by kernel_rfl) (by rfl) (by kernel_rfl) (fun _ _ _ h => h) (by rfl) (fun w' hw' => ?_) gS ?_
      rotate_left
      focus (go_simp; (try with_reducible rfl); done)
      (try simp only [Act.put, List.getElem_toArray, List.getElem_cons_succ, List.getElem_cons_zero, List.setIfInBounds_toArray, List.set_cons_zero, List.set_cons_succ])
      refine wpAnyG_take 4 (v := ?_) rfl (by kernel_rfl) (by kernel_rfl) (by kernel_rfl) (by kernel_rfl) (by rfl) (by kernel_rfl) (fun _ _ _ h => h) (by rfl) (fun w' hw' => ?_) gS ?_
      rotate_left
      focus (go_simp; (try with_reducible rfl); done)
      (try simp only [Act.put, List.getElem_toArray, List.getElem_cons_succ, List.getElem_cons_zero, List.setIfInBounds_toArray, List.set_cons_zero, List.set_cons_succ])
      refine wpAnyG_take 5 (v := ?_) rfl (by kernel_rfl) (by kernel_rfl) (by kernel_rfl) (by kernel_rfl) (by rfl) (by kernel_rfl) (fun _ _ _ h => h) (by rfl) (fun w' hw' => ?_) gS ?_
      rotate_left
      focus (have hh := HS.out _ hw'; go_split_ands; go_simp; (try with_reducible rfl); done)
      (try simp only [Act.put, List.getElem_toArray, List.getElem_cons_succ, List.getElem_cons_zero, List.setIfInBounds_toArray, List.set_cons_zero, List.set_cons_succ])
      refine wpAnyG_take 7 (v := ?_) rfl (by kernel_rfl) (by kernel_rfl) (by kernel_rfl) (by kernel_rfl) (by rfl) (by kernel_rfl) (fun _ _ _ h => h) (by rfl) (fun w' hw' => ?_) gS ?_
      rotate_left
      focus (go_simp; (try with_reducible rfl); done)
      (try simp only [Act.put, List.getElem_toArray, List.getElem_cons_succ, List.getElem_cons_zero, List.setIfInBounds_toArray, List.set_cons_zero, List.set_cons_succ])
      refine wpAnyG_take 8 (v := ?_) rfl (by kernel_rfl) (by kernel_rfl) (by kernel_rfl) (by kernel_rfl) (by rfl) (by kernel_rfl) (fun _ _ _ h => h) (by rfl) (fun w' hw' => ?_) gS ?_
      rotate_left
      focus (go_simp; (try with_reducible rfl); done)
      (try simp only [Act.put, List.getElem_toArray, List.getElem_cons_succ, List.getElem_cons_zero, List.setIfInBounds_toArray, List.set_cons_zero, List.set_cons_succ])
      refine wpAnyG_take 9 (v := ?_) rfl (by kernel_rfl) (by kernel_rfl) (by kernel_rfl) (by kernel_rfl) (by rfl) (by kernel_rfl) (fun _ _ _ h => h) (by rfl) (fun w' hw' => ?_) gS ?_
      rotate_left
      focus (go_simp; (try with_reducible rfl); done)
      (try simp only [Act.put, List.getElem_toArray, List.getElem_cons_succ, List.getElem_cons_zero, List.setIfInBounds_toArray, List.set_cons_zero, List.set_cons_succ])
      refine wpAnyG_take 10 (v := ?_) rfl (by kernel_rfl) (by kernel_rfl) (by kernel_rfl) (by kernel_rfl) (by rfl) (by kernel_rfl) (fun _ _ _ h => h) (by rfl) (fun w' hw' => ?_) gS ?_
      rotate_left
      focus (have hh := HS.out _ hw'; go_split_ands; go_simp; (try with_reducible rfl); done)
      (try simp only [Act.put, List.getElem_toArray, List.getElem_cons_succ, List.getElem_cons_zero, List.setIfInBounds_toArray, List.set_cons_zero, List.set_cons_succ])
      refine wpAnyG_two 1 11 (by kernel_rfl) rfl rfl (by rfl) (by rfl) (fun K hK => ?_) (fun K hK => ?_)
      · (try simp only [List.getElem_toArray, List.getElem_cons_succ, List.getElem_cons_zero])
        go_simp
        have gS : Ext wr (wr.alloc (.cells #[] 34)).drew := (ext_alloc (Below.refl _ _) _).drew
        have hown0 : (wr.alloc (.cells #[] 34)).drew.ownsRow wr.heap.size 34 3 (.slice (some ⟨wr.heap.size, 0, none⟩) 0 0) 0 [] := World.ownsRow_lit (base := wr.heap.size) (size := 3) wr #[] 0 (Nat.le_refl _) (by unfold maxLen; omega) rfl
        generalize (wr.alloc (.cells #[] 34)).drew = s1 at *
        obtain ⟨E1, hE1⟩ : ∃ E1, E1 = wr.heap.size := ⟨_, rfl⟩
        have hs1w : wr.heap.size < s1.heap.size := by have := (World.ownsRow.lt hown0 wr.heap.size rfl).2; exact this
        (try go_wp2_with fail)
        refine hK.out _ _ (fun _ => gS) ?_
        clear hK K
        (try simp only [Act.put, List.getElem_toArray, List.getElem_cons_succ, List.getElem_cons_zero, List.setIfInBounds_toArray, List.set_cons_zero, List.set_cons_succ])
        refine wpAnyG_two 6 11 (by kernel_rfl) rfl rfl (by rfl) (by rfl) (fun K hK => ?_) (fun K hK => ?_)
        · (try simp only [List.getElem_toArray, List.getElem_cons_succ, List.getElem_cons_zero])
          refine wp_append_row _ (.tmp 33) (.tmp 37) 39 (by rfl) wr.heap.size 34 i0 (.agg #[.bool false, .slice none 0 0, .slice none 0 0]) 3 56 Try.underlying39 hi hz0 hz1 hz2 rfl (by omega) _ _ _ (by rfl) hown0 A1 N cp1 (fcells ts) (by rfl) (HTR.out _ gS) HONE.out (by unfold maxLen; omega) (by omega) (by have := gS.size; omega) ?_
          intro v4 w4 ho4 hg4 hw4
          rw [List.nil_append, Nat.zero_add] at ho4
          obtain ⟨A4, c4, rfl⟩ := own_form ho4
          have x4 : Ext wr w4 := Below.grown gS hg4 (by have := gS.size; omega) fun g hg => by cases hg; exact Nat.le_refl _
          have hrow := ho4
          clear ho4 hg4 hw4 hown0
          have gS : Ext wr w4 := x4
          (try go_wp2_with fail)
          refine hK.out _ _ (fun _ => gS) ?_
          clear hK K
          (try simp only [Act.put, List.getElem_toArray, List.getElem_cons_succ, List.getElem_cons_zero, List.setIfInBounds_toArray, List.set_cons_zero, List.set_cons_succ])
          refine wpAnyG_one 11 (by kernel_rfl) rfl (by rfl) (fun K hK => ?_)
          (try simp only [List.getElem_toArray, List.getElem_cons_succ, List.getElem_cons_zero])
          go_simp
          have hcl := cell_three w4 (.bool nb) (.slice B1 q1 r1) (.slice B2 q2 r2) 34
          have x3 : Ext w4 (w4.alloc (.cells #[.bool nb, .slice B1 q1 r1, .slice B2 q2 r2] 34)) := ext_alloc (Below.refl _ _) _
          have hlt : w4.heap.size < (w4.alloc (.cells #[.bool nb, .slice B1 q1 r1, .slice B2 q2 r2] 34)).heap.size := by simp
          have gS : Ext wr (w4.alloc (.cells #[.bool nb, .slice B1 q1 r1, .slice B2 q2 r2] 34)) := gS.trans x3
          obtain ⟨GB, hGB⟩ : ∃ GB, GB = w4.heap.size := ⟨_, rfl⟩
          rw [← hGB] at hcl hlt ⊢
          generalize w4.alloc (.cells #[.bool nb, .slice B1 q1 r1, .slice B2 q2 r2] 34) = s3 at *
          clear hGB
          have hrow3 := hrow.kept (Ext.grown x3) (by cases A4 <;> simp [Value.ownBlock])
          clear hrow x3
          (try go_wp2_with fail)
          refine hK.out _ _ (fun _ => gS) ?_
          clear hK K
          (try simp only [Act.put, List.getElem_toArray, List.getElem_cons_succ, List.getElem_cons_zero, List.setIfInBounds_toArray, List.set_cons_zero, List.set_cons_succ])
          refine wpAnyG_one 12 (by kernel_rfl) rfl (by rfl) (fun K hK => ?_)
          (try simp only [List.getElem_toArray, List.getElem_cons_succ, List.getElem_cons_zero])
          refine wp_append_mine _ (.tmp 38) (.tmp 43) 39 (by rfl) wr.heap.size 34 i0 (.agg #[.bool false, .slice none 0 0, .slice none 0 0]) 3 56 Try.underlying39 hi hz0 hz1 hz2 rfl (by omega) _ _ _ (by rfl) hrow3 ⟨GB, 0, none⟩ 1 1 [.bool nb, .slice B1 q1 r1, .slice B2 q2 r2] (by rfl) rfl hcl (by simp [Value.oneCell']) (by unfold maxLen; omega) (by omega) (by have := gS.size; omega) ?_
          intro v5 w5 ho5 hg5 hw5
          have gS : Ext wr w5 := Below.grown gS hg5 (by have := gS.size; omega) fun g hg => (hrow3.lt g hg).1
          obtain ⟨A5, c5, rfl⟩ := own_form ho5
          rw [fcells_snoc ts ⟨nb, .slice B1 q1 r1, .slice B2 q2 r2⟩] at ho5
          have gR := gS
          clear hrow3 hcl hg5 hw5
          (try go_wp2_with fail)
          refine hK.out _ _ (fun _ => gS) ?_
          clear hK K
          (try simp only [Act.put, List.getElem_toArray, List.getElem_cons_succ, List.getElem_cons_zero, List.setIfInBounds_toArray, List.set_cons_zero, List.set_cons_succ])
          refine wpAnyG_one 13 (by kernel_rfl) rfl (by rfl) (fun K hK => ?_)
          (try simp only [List.getElem_toArray, List.getElem_cons_succ, List.getElem_cons_zero])
          go_simp
          have gS : Ext wr (w5.alloc (.cells #[.slice A5 (N + 1) c5] 39)) := ext_alloc gS _
          (try go_wp2_with fail)
          refine hK.out _ _ (fun _ => gS) ?_
          clear hK K
          (try simp only [Act.put, List.getElem_toArray, List.getElem_cons_succ, List.getElem_cons_zero, List.setIfInBounds_toArray, List.set_cons_zero, List.set_cons_succ])
          refine wpAnyG_one 14 (by kernel_rfl) rfl (by rfl) (fun K hK => ?_)
          (try simp only [List.getElem_toArray, List.getElem_cons_succ, List.getElem_cons_zero])
          refine wp_append_mine _ (.tmp 32) (.tmp 45) 22 (by rfl) w.heap.size 39 j0 (.slice none 0 0) 1 24 Try.underlying22 hj hy0 hy1 hy2 rfl (by omega) _ _ _ (by rfl) (HM.out.ext gS).own ⟨w5.heap.size, 0, none⟩ 1 1 [.slice A5 (N + 1) c5] (by rfl) rfl (cell_one w5 _ _) (by simp [Value.oneCell']) (by unfold maxLen; omega) (by omega) (by have := hx.size; have := gS.size; omega) ?_
          intro v8 w8 ho8 hg8 hw8
          have hM8 := Lib.hid (HM.out.push_in hx (ext_alloc gR _) (ho5.kept (Ext.grown (ext_alloc (Below.refl _ _) _)) (by cases A5 <;> simp [Value.ownBlock])) (by rw [List.length_append, HTS.out.1]; rfl) (wide_ts HTS.out.1 HTS.out.2 HB0.out) ho8 hg8 hw8)
          have hx8 : Ext w w8 := Below.grown (Ext.trans hx gS) hg8 (by have := hx.size; have := gS.size; omega) fun g hg => (HM.out.lt (.inl hg)).1
          clear ho8 hg8 hw8 ho5
          refine hK.out _ _ (fun h => absurd h (by decide)) ?_
          clear hK K
          (try simp only [Act.put, List.getElem_toArray, List.getElem_cons_succ, List.getElem_cons_zero, List.setIfInBounds_toArray, List.set_cons_zero, List.set_cons_succ])
          refine wpAnyG_one 15 (by kernel_rfl) rfl (by rfl) (fun K hK => ?_)
          (try simp only [List.getElem_toArray, List.getElem_cons_succ, List.getElem_cons_zero])
          go_simp
          refine hK.out _ _ (fun h => absurd h (by decide)) ?_
          clear hK K
          (try simp only [Act.put, List.getElem_toArray, List.getElem_cons_succ, List.getElem_cons_zero, List.setIfInBounds_toArray, List.set_cons_zero, List.set_cons_succ])
          refine wpAnyG_done (by kernel_rfl) ?_ _
          go_wp2
          go_roundw
          case rel => exact ⟨k + 1, _, by omega, by go_num, hM8, hx8⟩
          case measure => simp [intOf]; omega
        · (try simp only [List.getElem_toArray, List.getElem_cons_succ, List.getElem_cons_zero])
          go_simp
          have hcl := cell_three s1 (.bool nb) (.slice B1 q1 r1) (.slice B2 q2 r2) 34
          have x3 : Ext s1 (s1.alloc (.cells #[.bool nb, .slice B1 q1 r1, .slice B2 q2 r2] 34)) := ext_alloc (Below.refl _ _) _
          have hlt : s1.heap.size < (s1.alloc (.cells #[.bool nb, .slice B1 q1 r1, .slice B2 q2 r2] 34)).heap.size := by simp
          have gS : Ext wr (s1.alloc (.cells #[.bool nb, .slice B1 q1 r1, .slice B2 q2 r2] 34)) := gS.trans x3
          obtain ⟨GB, hGB⟩ : ∃ GB, GB = s1.heap.size := ⟨_, rfl⟩
          have hGN : GB ≠ wr.heap.size := by omega
          rw [← hGB] at hcl hlt ⊢
          generalize s1.alloc (.cells #[.bool nb, .slice B1 q1 r1, .slice B2 q2 r2] 34) = s3 at *
          clear hGB
          have hown3 := hown0.kept (Ext.grown x3) (by simp [Value.ownBlock])
          clear hown0 x3
          (try go_wp2_with fail)
          refine hK.out _ _ (fun _ => gS) ?_
          clear hK K
          (try simp only [Act.put, List.getElem_toArray, List.getElem_cons_succ, List.getElem_cons_zero, List.setIfInBounds_toArray, List.set_cons_zero, List.set_cons_succ])
          refine wpAnyG_one 6 (by kernel_rfl) rfl (by rfl) (fun K hK => ?_)
          refine wp_append_row _ (.tmp 33) (.tmp 37) 39 (by rfl) wr.heap.size 34 i0 (.agg #[.bool false, .slice none 0 0, .slice none 0 0]) 3 56 Try.underlying39 hi hz0 hz1 hz2 rfl (by omega) _ _ _ (by rfl) hown3 A1 N cp1 (fcells ts) (by rfl) (HTR.out _ gS) HONE.out (by unfold maxLen; omega) (by omega) (by have := gS.size; omega) ?_
          intro v4 w4 ho4 hg4 hw4
          rw [List.nil_append, Nat.zero_add] at ho4
          obtain ⟨A4, c4, rfl⟩ := own_form ho4
          have x4 : Ext wr w4 := Below.grown gS hg4 (by have := gS.size; omega) fun g hg => by cases hg; exact Nat.le_refl _
          have hcl : ∀ (j : Nat) (u : Value), [Value.bool nb, .slice B1 q1 r1, .slice B2 q2 r2][j]? = some u → w4.cell? ((⟨GB, 0, none⟩ : Addr).add j) = some u := fun j u hu => by
            have h1 := hcl j u hu
            have hne : GB ≠ wr.heap.size := hGN
            rw [← h1]
            refine World.cell?_of_block ?_
            rw [block_of_add]
            exact hg4.block _ hlt (fun e => hne (Option.some.inj e))
          have hrow3 := ho4
          clear ho4 hg4 hw4 hown3
          have gS : Ext wr w4 := x4
          (try go_wp2_with fail)
          refine hK.out _ _ (fun _ => gS) ?_
          clear hK K
          (try simp only [Act.put, List.getElem_toArray, List.getElem_cons_succ, List.getElem_cons_zero, List.setIfInBounds_toArray, List.set_cons_zero, List.set_cons_succ])
          refine wpAnyG_one 12 (by kernel_rfl) rfl (by rfl) (fun K hK => ?_)
          (try simp only [List.getElem_toArray, List.getElem_cons_succ, List.getElem_cons_zero])
          refine wp_append_mine _ (.tmp 38) (.tmp 43) 39 (by rfl) wr.heap.size 34 i0 (.agg #[.bool false, .slice none 0 0, .slice none 0 0]) 3 56 Try.underlying39 hi hz0 hz1 hz2 rfl (by omega) _ _ _ (by rfl) hrow3 ⟨GB, 0, none⟩ 1 1 [.bool nb, .slice B1 q1 r1, .slice B2 q2 r2] (by rfl) rfl hcl (by simp [Value.oneCell']) (by unfold maxLen; omega) (by omega) (by have := gS.size; omega) ?_
          intro v5 w5 ho5 hg5 hw5
          have gS : Ext wr w5 := Below.grown gS hg5 (by have := gS.size; omega) fun g hg => (hrow3.lt g hg).1
          obtain ⟨A5, c5, rfl⟩ := own_form ho5
          rw [fcells_snoc ts ⟨nb, .slice B1 q1 r1, .slice B2 q2 r2⟩] at ho5
          have gR := gS
          clear hrow3 hcl hg5 hw5
          (try go_wp2_with fail)
          refine hK.out _ _ (fun _ => gS) ?_
          clear hK K
          (try simp only [Act.put, List.getElem_toArray, List.getElem_cons_succ, List.getElem_cons_zero, List.setIfInBounds_toArray, List.set_cons_zero, List.set_cons_succ])
          refine wpAnyG_one 13 (by kernel_rfl) rfl (by rfl) (fun K hK => ?_)
          (try simp only [List.getElem_toArray, List.getElem_cons_succ, List.getElem_cons_zero])
          go_simp
          have gS : Ext wr (w5.alloc (.cells #[.slice A5 (N + 1) c5] 39)) := ext_alloc gS _
          (try go_wp2_with fail)
          refine hK.out _ _ (fun _ => gS) ?_
          clear hK K
          (try simp only [Act.put, List.getElem_toArray, List.getElem_cons_succ, List.getElem_cons_zero, List.setIfInBounds_toArray, List.set_cons_zero, List.set_cons_succ])
          refine wpAnyG_one 14 (by kernel_rfl) rfl (by rfl) (fun K hK => ?_)
          (try simp only [List.getElem_toArray, List.getElem_cons_succ, List.getElem_cons_zero])
          refine wp_append_mine _ (.tmp 32) (.tmp 45) 22 (by rfl) w.heap.size 39 j0 (.slice none 0 0) 1 24 Try.underlying22 hj hy0 hy1 hy2 rfl (by omega) _ _ _ (by rfl) (HM.out.ext gS).own ⟨w5.heap.size, 0, none⟩ 1 1 [.slice A5 (N + 1) c5] (by rfl) rfl (cell_one w5 _ _) (by simp [Value.oneCell']) (by unfold maxLen; omega) (by omega) (by have := hx.size; have := gS.size; omega) ?_
          intro v8 w8 ho8 hg8 hw8
          have hM8 := Lib.hid (HM.out.push_in hx (ext_alloc gR _) (ho5.kept (Ext.grown (ext_alloc (Below.refl _ _) _)) (by cases A5 <;> simp [Value.ownBlock])) (by rw [List.length_append, HTS.out.1]; rfl) (wide_ts HTS.out.1 HTS.out.2 HB0.out) ho8 hg8 hw8)
          have hx8 : Ext w w8 := Below.grown (Ext.trans hx gS) hg8 (by have := hx.size; have := gS.size; omega) fun g hg => (HM.out.lt (.inl hg)).1
          clear ho8 hg8 hw8 ho5
          refine hK.out _ _ (fun h => absurd h (by decide)) ?_
          clear hK K
          (try simp only [Act.put, List.getElem_toArray, List.getElem_cons_succ, List.getElem_cons_zero, List.setIfInBounds_toArray, List.set_cons_zero, List.set_cons_succ])
          refine wpAnyG_one 15 (by kernel_rfl) rfl (by rfl) (fun K hK => ?_)
          (try simp only [List.getElem_toArray, List.getElem_cons_succ, List.getElem_cons_zero])
          go_simp
          refine hK.out _ _ (fun h => absurd h (by decide)) ?_
          clear hK K
          (try simp only [Act.put, List.getElem_toArray, List.getElem_cons_succ, List.getElem_cons_zero, List.setIfInBounds_toArray, List.set_cons_zero, List.set_cons_succ])
          refine wpAnyG_done (by kernel_rfl) ?_ _
          go_wp2
          go_roundw
          case rel => exact ⟨k + 1, _, by omega, by go_num, hM8, hx8⟩
          case measure => simp [intOf]; omega
      · (try simp only [List.getElem_toArray, List.getElem_cons_succ, List.getElem_cons_zero])
        go_simp
        have hcl : ∀ (j : Nat) (u : Value), [Value.bool nb, .slice B1 q1 r1, .slice B2 q2 r2][j]? = some u → (wr.alloc (.cells #[.bool nb, .slice B1 q1 r1, .slice B2 q2 r2] 34)).drew.cell? ((⟨wr.heap.size, 0, none⟩ : Addr).add j) = some u := cell_three wr (.bool nb) (.slice B1 q1 r1) (.slice B2 q2 r2) 34
        have hlt : wr.heap.size < (wr.alloc (.cells #[.bool nb, .slice B1 q1 r1, .slice B2 q2 r2] 34)).drew.heap.size := by simp
        have gS : Ext wr (wr.alloc (.cells #[.bool nb, .slice B1 q1 r1, .slice B2 q2 r2] 34)).drew := (ext_alloc (Below.refl _ _) _).drew
        generalize (wr.alloc (.cells #[.bool nb, .slice B1 q1 r1, .slice B2 q2 r2] 34)).drew = s2 at *
        (try go_wp2_with fail)
        refine hK.out _ _ (fun _ => gS) ?_
        clear hK K
        (try simp only [Act.put, List.getElem_toArray, List.getElem_cons_succ, List.getElem_cons_zero, List.setIfInBounds_toArray, List.set_cons_zero, List.set_cons_succ])
        refine wpAnyG_one 1 (by kernel_rfl) rfl (by rfl) (fun K hK => ?_)
        go_simp
        have hown0 : (s2.alloc (.cells #[] 34)).ownsRow wr.heap.size 34 3 (.slice (some ⟨s2.heap.size, 0, none⟩) 0 0) 0 [] := World.ownsRow_lit (base := wr.heap.size) (size := 3) s2 #[] 0 gS.size (by unfold maxLen; omega) rfl
        have x3 : Ext s2 (s2.alloc (.cells #[] 34)) := ext_alloc (Below.refl _ _) _
        have hcl : ∀ (j : Nat) (u : Value), [Value.bool nb, .slice B1 q1 r1, .slice B2 q2 r2][j]? = some u → (s2.alloc (.cells #[] 34)).cell? ((⟨wr.heap.size, 0, none⟩ : Addr).add j) = some u := fun j u hu => (x3.cell (p := (⟨wr.heap.size, 0, none⟩ : Addr).add j) (by rw [block_of_add]; exact hlt)).trans (hcl j u hu)
        have hlt2 : wr.heap.size < (s2.alloc (.cells #[] 34)).heap.size := Nat.lt_of_lt_of_le hlt x3.size
        have gS : Ext wr (s2.alloc (.cells #[] 34)) := gS.trans x3
        obtain ⟨GE, hGE⟩ : ∃ GE, GE = s2.heap.size := ⟨_, rfl⟩
        rw [← hGE] at hown0 hlt ⊢
        generalize s2.alloc (.cells #[] 34) = s3 at *
        clear hGE x3
        (try go_wp2_with fail)
        refine hK.out _ _ (fun _ => gS) ?_
        clear hK K
        (try simp only [Act.put, List.getElem_toArray, List.getElem_cons_succ, List.getElem_cons_zero, List.setIfInBounds_toArray, List.set_cons_zero, List.set_cons_succ])
        refine wpAnyG_one 6 (by kernel_rfl) rfl (by rfl) (fun K hK => ?_)
        refine wp_append_row _ (.tmp 33) (.tmp 37) 39 (by rfl) wr.heap.size 34 i0 (.agg #[.bool false, .slice none 0 0, .slice none 0 0]) 3 56 Try.underlying39 hi hz0 hz1 hz2 rfl (by omega) _ _ _ (by rfl) hown0 A1 N cp1 (fcells ts) (by rfl) (HTR.out _ gS) HONE.out (by unfold maxLen; omega) (by omega) (by have := gS.size; omega) ?_
        intro v4 w4 ho4 hg4 hw4
        rw [List.nil_append, Nat.zero_add] at ho4
        obtain ⟨A4, c4, rfl⟩ := own_form ho4
        have x4 : Ext wr w4 := Below.grown gS hg4 (by have := gS.size; omega) fun g hg => by cases hg; show wr.heap.size ≤ GE; omega
        have hcl : ∀ (j : Nat) (u : Value), [Value.bool nb, .slice B1 q1 r1, .slice B2 q2 r2][j]? = some u → w4.cell? ((⟨wr.heap.size, 0, none⟩ : Addr).add j) = some u := fun j u hu => by
          have h1 := hcl j u hu
          rw [← h1]
          refine World.cell?_of_block ?_
          rw [block_of_add]
          exact hg4.block _ hlt2 (fun e => by have e' : wr.heap.size = GE := Option.some.inj e; omega)
        have hrow3 := ho4
        clear ho4 hg4 hw4 hown0
        have gS : Ext wr w4 := x4
        (try go_wp2_with fail)
        refine hK.out _ _ (fun _ => gS) ?_
        clear hK K
        (try simp only [Act.put, List.getElem_toArray, List.getElem_cons_succ, List.getElem_cons_zero, List.setIfInBounds_toArray, List.set_cons_zero, List.set_cons_succ])
        refine wpAnyG_one 12 (by kernel_rfl) rfl (by rfl) (fun K hK => ?_)
        (try simp only [List.getElem_toArray, List.getElem_cons_succ, List.getElem_cons_zero])
        refine wp_append_mine _ (.tmp 38) (.tmp 43) 39 (by rfl) wr.heap.size 34 i0 (.agg #[.bool false, .slice none 0 0, .slice none 0 0]) 3 56 Try.underlying39 hi hz0 hz1 hz2 rfl (by omega) _ _ _ (by rfl) hrow3 ⟨wr.heap.size, 0, none⟩ 1 1 [.bool nb, .slice B1 q1 r1, .slice B2 q2 r2] (by rfl) rfl hcl (by simp [Value.oneCell']) (by unfold maxLen; omega) (by omega) (by have := gS.size; omega) ?_
        intro v5 w5 ho5 hg5 hw5
        have gS : Ext wr w5 := Below.grown gS hg5 (by have := gS.size; omega) fun g hg => (hrow3.lt g hg).1
        obtain ⟨A5, c5, rfl⟩ := own_form ho5
        rw [fcells_snoc ts ⟨nb, .slice B1 q1 r1, .slice B2 q2 r2⟩] at ho5
        have gR := gS
        clear hrow3 hcl hg5 hw5
        (try go_wp2_with fail)
        refine hK.out _ _ (fun _ => gS) ?_
        clear hK K
        (try simp only [Act.put, List.getElem_toArray, List.getElem_cons_succ, List.getElem_cons_zero, List.setIfInBounds_toArray, List.set_cons_zero, List.set_cons_succ])
        refine wpAnyG_one 13 (by kernel_rfl) rfl (by rfl) (fun K hK => ?_)
        (try simp only [List.getElem_toArray, List.getElem_cons_succ, List.getElem_cons_zero])
        go_simp
        have gS : Ext wr (w5.alloc (.cells #[.slice A5 (N + 1) c5] 39)) := ext_alloc gS _
        (try go_wp2_with fail)
        refine hK.out _ _ (fun _ => gS) ?_
        clear hK K
        (try simp only [Act.put, List.getElem_toArray, List.getElem_cons_succ, List.getElem_cons_zero, List.setIfInBounds_toArray, List.set_cons_zero, List.set_cons_succ])
        refine wpAnyG_one 14 (by kernel_rfl) rfl (by rfl) (fun K hK => ?_)
        (try simp only [List.getElem_toArray, List.getElem_cons_succ, List.getElem_cons_zero])
        refine wp_append_mine _ (.tmp 32) (.tmp 45) 22 (by rfl) w.heap.size 39 j0 (.slice none 0 0) 1 24 Try.underlying22 hj hy0 hy1 hy2 rfl (by omega) _ _ _ (by rfl) (HM.out.ext gS).own ⟨w5.heap.size, 0, none⟩ 1 1 [.slice A5 (N + 1) c5] (by rfl) rfl (cell_one w5 _ _) (by simp [Value.oneCell']) (by unfold maxLen; omega) (by omega) (by have := hx.size; have := gS.size; omega) ?_
        intro v8 w8 ho8 hg8 hw8
        have hM8 := Lib.hid (HM.out.push_in hx (ext_alloc gR _) (ho5.kept (Ext.grown (ext_alloc (Below.refl _ _) _)) (by cases A5 <;> simp [Value.ownBlock])) (by rw [List.length_append, HTS.out.1]; rfl) (wide_ts HTS.out.1 HTS.out.2 HB0.out) ho8 hg8 hw8)
        have hx8 : Ext w w8 := Below.grown (Ext.trans hx gS) hg8 (by have := hx.size; have := gS.size; omega) fun g hg => (HM.out.lt (.inl hg)).1
        clear ho8 hg8 hw8 ho5
        refine hK.out _ _ (fun h => absurd h (by decide)) ?_
        clear hK K
        (try simp only [Act.put, List.getElem_toArray, List.getElem_cons_succ, List.getElem_cons_zero, List.setIfInBounds_toArray, List.set_cons_zero, List.set_cons_succ])
        refine wpAnyG_one 15 (by kernel_rfl) rfl (by rfl) (fun K hK => ?_)
        (try simp only [List.getElem_toArray, List.getElem_cons_succ, List.getElem_cons_zero])
        go_simp
        refine hK.out _ _ (fun h => absurd h (by decide)) ?_
        clear hK K
        (try simp only [Act.put, List.getElem_toArray, List.getElem_cons_succ, List.getElem_cons_zero, List.setIfInBounds_toArray, List.set_cons_zero, List.set_cons_succ])
        refine wpAnyG_done (by kernel_rfl) ?_ _
        go_wp2
        go_roundw
        case rel => exact ⟨k + 1, _, by omega, by go_num, hM8, hx8⟩
        case measure => simp [intOf]; omega
    · obtain rfl : n = k := by omega
      have hkk : ¬ ((n : Int) < (n : Int)) := by omega
      have HME := Lib.hid (fun (w' : World) (h : Ext wr w') => HM.out.mat.below h)
      obtain ⟨AW, cW, rfl, _, _⟩ := HM.out.mat.form
      have HRD := Lib.hid (show Calls Try.prog 43 #[.slice AW n cW] wr (fun e w' => ∃ A c A' c' b0 S0 k0 l0 T0 m0 o0, e = .returned (.tuple #[.slice A n c, .slice A' R.leads.length c', .agg #[.bool b0, .slice S0 k0 l0, .slice T0 m0 o0]]) ∧ (n ≠ 0 → EMat true w' (.slice A n c) n (N + 1) R.m) ∧ IntsV w' (.slice A' R.leads.length c') (R.leads.map (fun l : Nat => (l : Int))) ∧ Ext wr w') from by
        have hM : EMat K wr (.slice AW n cW) n C (wide A b N) := by
          by_cases h0 : n = 0
          · subst h0
            rw [HCz.out rfl]
            obtain ⟨a1, a2, a3, a4, a5, a6, a7, a8⟩ := HM.out.mat
            refine ⟨a1, a2, a3, a4, a5, a6, a7, fun j u hu => ?_⟩
            have h1 := (List.getElem?_eq_some_iff.1 hu).1
            have h2 := a7.1
            omega
          · rw [HCn.out h0]; exact HM.out.mat
        refine (rred_n hM hL3 hL HFC.out hn hC9 HCz.out).mono ?_
        rintro e w' ⟨A3, c3, A4, c4, b0, S0, k0, l0, T0, m0, o0, rfl, m1, m2, _, m3⟩
        have hl : (rrefs (wide A b N) n C).leads = R.leads := by
          by_cases h0 : n = 0
          · subst h0
            rw [len_zero, HR.out, len_zero]
          · rw [HCn.out h0, HR.out]
        rw [hl] at m2 ⊢
        refine ⟨A3, c3, A4, c4, b0, S0, k0, l0, T0, m0, o0, rfl, fun h0 => ?_, m2, m3⟩
        rw [HCn.out h0] at m1
        rw [HR.out]
        exact m1)
      have hRl : R.leads.length ≤ n := by rw [HR.out]; exact (ech _ _ _).len
      have HLAST := Lib.hid (show N ∈ R.leads ↔ R.leads.getLast? = some N from by
        rw [HR.out]
        exact last_iff (ech _ _ _).asc (ech _ _ _).lt)
      clear HM HME
      go_upto_region 10 with (go_at_call 43; (with_reducible refine HRD.out.mono ?_); rintro e w4 ⟨A3, c3, A4, c4, b0, S0, k0, l0, T0, m0, o0, rfl, m1', m2', x4⟩)
      have x5 : Ext wr (w4.alloc (.cells #[.bool b0, .slice S0 k0 l0, .slice T0 m0 o0] 34)) := ext_alloc x4 _
      have m2 := m2'.below (ext_alloc (Below.refl _ _) (.cells #[.bool b0, .slice S0 k0 l0, .slice T0 m0 o0] 34))
      have M1 := Lib.hid (fun (h : n ≠ 0) => (m1' h).below (ext_alloc (Below.refl _ _) (.cells #[.bool b0, .slice S0 k0 l0, .slice T0 m0 o0] 34)))
      obtain ⟨G4, hG4⟩ : ∃ G, G = w4.heap.size := ⟨_, rfl⟩
      rw [← hG4]
      generalize w4.alloc (.cells #[.bool b0, .slice S0 k0 l0, .slice T0 m0 o0] 34) = w6 at *
      have X6 : Ext w w6 := hx.trans x5
      clear m1' m2' x4 hG4
      go_cut [65] (fun bv wx => w6 = wx ∧ ∃ b1 : Bool, bv = .bool b1 ∧ (b1 = true ↔ N ∈ R.leads))
      case first =>
        by_cases h0 : R.leads.length = 0
        · have hn1 : ¬ ((0 : Int) < (R.leads.length : Int)) := by omega
          have hnil : R.leads = [] := List.eq_nil_of_length_eq_zero h0
          have HNI := Lib.hid (show ¬ N ∈ R.leads from by rw [hnil]; exact fun h => by cases h)
          clear hnil h0
          go_wp2
          go_meet
          exact ⟨rfl, false, rfl, ⟨fun h => (by cases h), fun h => absurd h HNI.out⟩⟩
        · have hn1 : (0 : Int) < (R.leads.length : Int) := by omega
          obtain ⟨l1, hl1⟩ : ∃ l1, R.leads.length = l1 + 1 := ⟨R.leads.length - 1, by omega⟩
          obtain ⟨bl, ol, e5, hbl, hcl⟩ := intsM_at m2 (k := l1) (by rw [List.length_map]; omega)
          subst e5
          rw [leadD (by omega)] at hcl
          have hsub : (R.leads.length : Int) - 1 = (l1 : Int) := by omega
          have hwl : IntKind.i64.wrap (l1 : Int) = (l1 : Int) := wrap_in (by omega)
          have hi1 : (0 : Int) ≤ (l1 : Int) := by omega
          have hi2 : (l1 : Int) < (R.leads.length : Int) := by omega
          have HLA := Lib.hid (show N ∈ R.leads ↔ N = R.leads.getD l1 0 from by
            rw [HLAST.out, ← last_at (by omega), show R.leads.length - 1 = l1 by omega])
          obtain ⟨y, hy⟩ : ∃ y, y = R.leads.getD l1 0 := ⟨_, rfl⟩
          rw [← hy] at hcl HLA
          have HL1 := Lib.hid hl1
          clear hy h0 hl1
          by_cases hyN : y = N
          · have hy1 : ((y : Int) == (N : Int)) = true := by rw [beq_iff_eq]; omega
            have hy2 : (y : Int) = (N : Int) := by omega
            have HYN := Lib.hid hyN
            clear hyN hy2
            go_wp2
            go_meet
            exact ⟨rfl, true, by first | rfl | (simp [HYN.out]), ⟨fun _ => HLA.out.2 HYN.out.symm, fun _ => rfl⟩⟩
          · have hy1 : ((y : Int) == (N : Int)) = false := by rw [beq_eq_false_iff_ne]; omega
            have hy2 : ¬ ((y : Int) = (N : Int)) := by omega
            go_wp2
            go_meet
            exact ⟨rfl, false, by first | rfl | (simp; omega), ⟨fun h => (by cases h), fun h => absurd (HLA.out.1 h).symm hyN⟩⟩
      case rest =>
      obtain ⟨hww, b1, rfl, hb1⟩ := hcut
      subst hww
      by_cases hmem : N ∈ R.leads
      · have HMEM := Lib.hid hmem
        obtain rfl : b1 = true := hb1.2 hmem
        clear hmem hb1
        go_wp2
        go_ret2
        rw [show solN R N = 0 from if_pos HMEM.out, show solE R N = 7 from if_pos HMEM.out]
        exact GivesL.none ⟨rfl, X6⟩
      · have HMEM := Lib.hid hmem
        obtain rfl : b1 = false := by
          cases b1 with
          | false => rfl
          | true => exact absurd (hb1.1 rfl) hmem
        by_cases hlen : R.leads.length < N
        · have hlen' : (R.leads.length : Int) < (N : Int) := by omega
          clear hmem hb1
          go_wp2
          go_ret2
          rw [show solN R N = 0 from by unfold solN; rw [if_neg HMEM.out, if_pos hlen], show solE R N = 9 from by unfold solE; rw [if_neg HMEM.out, if_pos hlen]]
          exact GivesL.none ⟨rfl, X6⟩
        · have HLEN := Lib.hid hlen
          have hlen' : ¬ ((R.leads.length : Int) < (N : Int)) := by omega
          have hNn : N ≤ n := by omega
          clear hmem hb1
          have HME := Lib.hid (fun (h : n ≠ 0) (w' : World) (hw : Ext w6 w') => (M1.out h).below hw)
          go_wp2
          go_loopw [12, 13] (fun rv iv wr => ∃ (k : Nat) (ts : List Fc), k ≤ N ∧ iv = .int .i64 k ∧ Hid (wr.ownsRow w6.heap.size 34 3 rv k (fcells ts)) ∧ Hid (ts.length = k ∧ ∀ (j : Nat) (t : Fc), ts[j]? = some t → Ent true w6 t.neg t.num t.den (R.m j N)) ∧ Ext w6 wr) (fun _ iv _ => N - (intOf iv).toNat)
          case atStart => exact ⟨0, [], Nat.zero_le _, rfl, Lib.hid (World.ownsRow_nil _ _ _ _), Lib.hid ⟨rfl, by simp⟩, Below.refl _ _⟩
          case round =>
            obtain ⟨k, ts, hk2, rfl, HO, HTS, hy⟩ := hrel
            by_cases hkN : k < N
            · obtain ⟨b', o', A5, cp5, rfl, hb5, hcell, hrow⟩ := (HME.out (by omega) _ (Below.refl _ _)).at_ (k := k) (by omega)
              obtain ⟨b6, o6, ng, D1, p1, d1, D2, p2, d2, rfl, hb6, e0, e1, e2, he⟩ := hrow.at_ (k := N) (by omega)
              have hcell := (hy.cell (p := ⟨b', o' + k, none⟩) hb5).trans hcell
              have e0 := (hy.cell (p := ⟨b6, o6 + N * 3, none⟩) hb6).trans e0
              have e1 := (hy.cell (p := ⟨b6, o6 + N * 3 + 1, none⟩) hb6).trans e1
              have e2 := (hy.cell (p := ⟨b6, o6 + N * 3 + 2, none⟩) hb6).trans e2
              have HE0 := Lib.hid he
              have hi1 : (0 : Int) ≤ (k : Int) := by omega
              have hi2 : (k : Int) < (n : Int) := by omega
              have hi3 : (0 : Int) ≤ (N : Int) := by omega
              have hi4 : (N : Int) < (N : Int) + 1 := by omega
              have hi5 : (k : Int) < (N : Int) := by omega
              have hwN : IntKind.i64.wrap ((N : Int) + 1) = (N : Int) + 1 := wrap_in (by omega)
              clear he hrow
              go_wp2_with (at_builtin; refine wpList_append_mine _ (by rfl) (.tmp 75) (.tmp 83) 39 (by rfl) w6.heap.size 34 i0 (.agg #[.bool false, .slice none 0 0, .slice none 0 0]) 3 56 Try.underlying39 hi hz0 hz1 hz2 rfl (by omega) _ _ _ (by rfl) (HO.out.kept (Ext.grown (ext_alloc (Below.refl _ _) _)) (by cases u12.ownBlock <;> simp)) ⟨wr.heap.size, 0, none⟩ 1 1 [.bool ng, .slice D1 p1 d1, .slice D2 p2 d2] (by rfl) rfl (cell_three wr _ _ _ _) (by simp [Value.oneCell']) (by unfold maxLen; omega) (by omega) (by have := hy.size; simp; omega) ?_; intro v8 w8 ho8 hg8 hw8)
              rw [fcells_snoc ts ⟨ng, .slice D1 p1 d1, .slice D2 p2 d2⟩] at ho8
              have hx8 : Ext w6 w8 := Below.grown (Ext.trans hy (ext_alloc (Below.refl _ _) _)) hg8 (by have := hy.size; simp; omega) fun g hg => (HO.out.lt g hg).1
              have HT8 := Lib.hid (show (ts ++ [(⟨ng, .slice D1 p1 d1, .slice D2 p2 d2⟩ : Fc)]).length = k + 1 ∧ ∀ (j : Nat) (t : Fc), (ts ++ [(⟨ng, .slice D1 p1 d1, .slice D2 p2 d2⟩ : Fc)])[j]? = some t → Ent true w6 t.neg t.num t.den (R.m j N) from ⟨by rw [List.length_append, HTS.out.1]; rfl, snoc_ent (t0 := ⟨ng, .slice D1 p1 d1, .slice D2 p2 d2⟩) (f := fun i => R.m i N) HTS.out.1 HTS.out.2 HE0.out⟩)
              have HO8 := Lib.hid ho8
              clear ho8 hg8 hw8
              go_roundw
              case rel => exact ⟨k + 1, _, by omega, by go_num, HO8, HT8, hx8⟩
              case measure => simp [intOf]; omega
            · obtain rfl : N = k := by omega
              have hkk : ¬ ((N : Int) < (N : Int)) := by omega
              have hE := ownsRow_efs HO.out HTS.out.1 fun j t ht => (HTS.out.2 j t ht).below hy
              obtain ⟨A9, c9, rfl⟩ := own_form HO.out
              go_wp2
              go_ret2
              rw [show solN R N = N from by unfold solN; rw [if_neg HMEM.out, if_neg HLEN.out], show solE R N = 0 from by unfold solE; rw [if_neg HMEM.out, if_neg HLEN.out]]
              exact ⟨_, _, rfl, hE, X6.trans hy⟩

set_option maxHeartbeats 4000000 in
theorem rsolve_no {K : Bool} {v x : Value} {ls : List Nat} {m : Nat} {b : Nat → Rat} {w : World} (hv : LMat w v ls) (hx : EFs K w x m b) (hl : ¬ validL ls ∨ m ≠ ls.length) :
    Calls Try.prog 25 #[v, x] w (fun e w' => e = .returned (.tuple #[.slice none 0 0, .int .i64 1]) ∧ Ext w w') := by
  have HVA := Lib.hid (rvalid_l hv)
  obtain ⟨A, cap, rfl, hc1, hc2⟩ := hv.form
  obtain ⟨A0, c0, rfl, hc3, hc4⟩ := hx.form
  clear hv hx
  obtain ⟨b, hb⟩ : ∃ b, b = decide (validL ls) := ⟨_, rfl⟩
  rw [← hb] at HVA
  obtain ⟨c, hc⟩ : ∃ c, c = ls.length := ⟨_, rfl⟩
  rw [← hc] at hl hc1 HVA ⊢
  have hb' : b = true → ((c : Int) != (m : Int)) = true := fun h => by
    rcases hl with hl | hl
    · exact absurd (of_decide_eq_true (hb.symm.trans h)) hl
    · rw [bne_iff_ne]; omega
  clear hb hc hl
  go_enter Try.func25, Try.ntmps25
  cases b with
  | false =>
    clear hb'
    go_wp2_with (go_at_call 22; (with_reducible refine HVA.out.mono ?_); rintro e w1 ⟨rfl, x1⟩)
    go_ret2
    exact ⟨rfl, x1⟩
  | true =>
    have hm := hb' rfl
    have hm' : ¬ (c = m) := by rw [bne_iff_ne] at hm; omega
    clear hb'
    go_wp2_with (go_at_call 22; (with_reducible refine HVA.out.mono ?_); rintro e w1 ⟨rfl, x1⟩)
    go_ret2
    exact ⟨rfl, x1⟩

end Go.Proofs.Ytmfigiifflljpaa
