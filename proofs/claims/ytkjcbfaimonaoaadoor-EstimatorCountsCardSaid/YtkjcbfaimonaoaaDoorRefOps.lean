/- ref01: Of, Cmp, Add, Sub, Mul. -/
import Derived.Test.YtkjcbfaimonaoaaDoorRefNorm
import Derived.Test.YtkjcbfaimonaoaaDoorBoxes
set_option linter.unusedVariables false
set_option linter.unusedSimpArgs false
set_option maxRecDepth 100000
namespace Go.Proofs.YtkjcbfaimonaoaaDoor
open Go.RowKit Num

theorem GivesN.form {w : World} {n : Nat} {e : Ending} {w' : World} (h : GivesN w n e w') : ∃ A c, e = .returned (.agg #[.slice A (limbsOf n).length c]) ∧ CanV w' (.slice A (limbsOf n).length c) n ∧ Ext w w' ∧ New w.heap.size (.slice A (limbsOf n).length c) := by
  obtain ⟨A, k, c, rfl, h1, h2, h3⟩ := h
  obtain ⟨A', c', e, _, _, _⟩ := id h1
  injection e with e1 e2 e3
  subst e2
  exact ⟨A, c, rfl, h1, h2, h3⟩

set_option maxHeartbeats 1000000 in
theorem rcmp_n {x y : Value} {a b : Nat} {w : World} (hx : NatV w x a) (hy : NatV w y b) :
    Calls Tryd.prog 78 #[.agg #[x], .agg #[y]] w (fun e w' => e = .returned (.int .i64 (cmpN a b)) ∧ Ext w w') := by
  go_enter Tryd.func78, Tryd.ntmps78
  go_upto_region 1 with (fail)
  have hB0 : Boxes w ((w.alloc (.cells #[x] 30)).alloc (.cells #[y] 30)) [[x], [y]] := ((Boxes.nil_ w).alloc rfl [x] 30).alloc (by simp) [y] 30
  generalize (w.alloc (.cells #[x] 30)).alloc (.cells #[y] 30) = W0 at *
  have hx0 : NatV W0 x a := hx.below hB0.ext
  have HB0 := Lib.hid hB0
  obtain ⟨cx0, fx0⟩ : W0.cell? ⟨w.heap.size, 0, none⟩ = some x ∧ W0.frozen? ⟨w.heap.size, 0, none⟩ = false := hB0.cell 0 _ 0 _ rfl rfl
  clear hB0
  go_wp2_with fail
  refine (norm_n hx0).mono ?_
  intro e w1 hg
  obtain ⟨A1, c1, rfl, h1, x1, n1⟩ := hg.form
  clear hg
  have hB1 := HB0.out.below x1
  obtain ⟨cx1, fx1⟩ : w1.cell? ⟨w.heap.size, 0, none⟩ = some x ∧ w1.frozen? ⟨w.heap.size, 0, none⟩ = false := hB1.cell 0 _ 0 _ rfl rfl
  obtain ⟨cy1, fy1⟩ : w1.cell? ⟨w.heap.size + 1, 0, none⟩ = some y ∧ w1.frozen? ⟨w.heap.size + 1, 0, none⟩ = false := hB1.cell 1 _ 0 _ rfl rfl
  have HB1 := Lib.hid hB1
  clear hB1
  go_wp2_with fail
  have hB2 : Boxes w (w1.setCell ⟨w.heap.size, 0, none⟩ (.slice A1 (limbsOf a).length c1)) [[.slice A1 (limbsOf a).length c1], [y]] := HB1.out.set 0 0 _
  have hs0 : w.heap.size + 2 ≤ W0.heap.size := HB0.out.size
  have h1' := U32s.setNew (p := ⟨w.heap.size, 0, none⟩) h1 n1 (by show w.heap.size < _; omega) (.slice A1 (limbsOf a).length c1)
  have hs1 : w.heap.size + 2 ≤ (w1.setCell ⟨w.heap.size, 0, none⟩ (.slice A1 (limbsOf a).length c1)).heap.size := hB2.size
  clear cx0 fx0 cx1 fx1 cy1 fy1 HB1
  generalize w1.setCell ⟨w.heap.size, 0, none⟩ (.slice A1 (limbsOf a).length c1) = W1 at *
  obtain ⟨cy2, fy2⟩ : W1.cell? ⟨w.heap.size + 1, 0, none⟩ = some y ∧ W1.frozen? ⟨w.heap.size + 1, 0, none⟩ = false := hB2.cell 1 _ 0 _ rfl rfl
  have hy1 : NatV W1 y b := hy.below hB2.ext
  have HB2 := Lib.hid hB2
  clear hB2
  refine (norm_n hy1).mono ?_
  intro e w3 hg
  obtain ⟨A2, c2, rfl, h2, x3, n2⟩ := hg.form
  clear hg
  have hB3 := HB2.out.below x3
  obtain ⟨cy3, fy3⟩ : w3.cell? ⟨w.heap.size + 1, 0, none⟩ = some y ∧ w3.frozen? ⟨w.heap.size + 1, 0, none⟩ = false := hB3.cell 1 _ 0 _ rfl rfl
  have hB4 : Boxes w (w3.setCell ⟨w.heap.size + 1, 0, none⟩ (.slice A2 (limbsOf b).length c2)) [[.slice A1 (limbsOf a).length c1], [.slice A2 (limbsOf b).length c2]] := hB3.set 1 0 _
  have n1' : New (w.heap.size + 2) (.slice A1 (limbsOf a).length c1) := n1.mono hs0
  have n2' : New (w.heap.size + 2) (.slice A2 (limbsOf b).length c2) := n2.mono hs1
  have h1'' := U32s.setNew (p := ⟨w.heap.size + 1, 0, none⟩) (CanV.below h1' x3) n1' (by show w.heap.size + 1 < _; omega) (.slice A2 (limbsOf b).length c2)
  have h2'' := U32s.setNew (p := ⟨w.heap.size + 1, 0, none⟩) h2 n2' (by show w.heap.size + 1 < _; omega) (.slice A2 (limbsOf b).length c2)
  clear hB3 cy2 fy2 h1' h2 h1
  go_upto_region 3 with (fail)
  generalize w3.setCell ⟨w.heap.size + 1, 0, none⟩ (.slice A2 (limbsOf b).length c2) = W2 at *
  have h1' : CanV W2 (.slice A1 (limbsOf a).length c1) a := h1''
  have h2' : CanV W2 (.slice A2 (limbsOf b).length c2) b := h2''
  clear h1'' h2'' n1 n2 hs0 hs1 x1 x3 cy3 fy3 hx0 hy1 HB0 HB2 hx hy
  clear w3 W1 w1 W0
  obtain ⟨cx, fx⟩ : W2.cell? ⟨w.heap.size, 0, none⟩ = some (.slice A1 (limbsOf a).length c1) ∧ W2.frozen? ⟨w.heap.size, 0, none⟩ = false := hB4.cell 0 _ 0 _ rfl rfl
  obtain ⟨cy, fy⟩ : W2.cell? ⟨w.heap.size + 1, 0, none⟩ = some (.slice A2 (limbsOf b).length c2) ∧ W2.frozen? ⟨w.heap.size + 1, 0, none⟩ = false := hB4.cell 1 _ 0 _ rfl rfl
  have hE : Ext w W2 := hB4.ext
  have HB := Lib.hid hB4
  clear hB4 fx fy
  obtain ⟨A, cap, e, q2, q3, q4⟩ := h1'
  injection e with e1 e2 e3
  subst e1 e3
  obtain ⟨B, cap', e, k2, k3, k4⟩ := h2'
  injection e with e1 e2' e3
  subst e1 e3
  clear e2 e2'
  have da := limbsOf_digs a
  have db := limbsOf_digs b
  have va := val_limbsOf a
  have vb := val_limbsOf b
  have L1 := @cmpN_len a b
  have L2 := @cmpN_len' a b
  generalize limbsOf a = xs at *
  generalize limbsOf b = ys at *
  by_cases hlt : xs.length < ys.length
  · have H := Lib.hid (L1 hlt)
    have hb : ((xs.length : Int) != (ys.length : Int)) = true := by rw [bne_iff_ne]; omega
    clear L1 L2 va vb
    go_wp2
    go_ret
    exact ⟨ret_int H.out.symm, hE⟩
  by_cases hgt : ys.length < xs.length
  · have H := Lib.hid (L2 hgt)
    have hb : ((xs.length : Int) != (ys.length : Int)) = true := by rw [bne_iff_ne]; omega
    clear L1 L2 va vb
    go_wp2
    go_ret
    exact ⟨ret_int H.out.symm, hE⟩
  have hl : xs.length = ys.length := by omega
  have HL := Lib.hid hl
  clear L1 L2 hlt hgt hl
  have hb : ((xs.length : Int) != (ys.length : Int)) = false := by rw [bne_eq_false_iff_eq]; have := HL.out; omega
  go_wp2
  go_loopw [5] (fun i wr => ∃ k : Nat, k ≤ xs.length ∧ i = .int .i64 ((k : Int) - 1) ∧ xs.drop k = ys.drop k ∧ Ext W2 wr) (fun i _ => (intOf i + 1).toNat)
  case atStart => exact ⟨xs.length, Nat.le_refl _, rfl, by rw [List.drop_of_length_le (Nat.le_refl _), List.drop_of_length_le (by have := HL.out; omega)], Below.refl _ _⟩
  case round =>
    obtain ⟨k, hk, rfl, hd, hx⟩ := hrel
    have hBr := HB.out.below hx
    have cxr : wr.cell? ⟨w.heap.size, 0, none⟩ = some (.slice A1 xs.length c1) := (hBr.cell 0 _ 0 _ rfl rfl).1
    have cyr : wr.cell? ⟨w.heap.size + 1, 0, none⟩ = some (.slice A2 ys.length c2) := (hBr.cell 1 _ 0 _ rfl rfl).1
    clear hBr cx cy
    cases k with
    | zero =>
      have he : xs = ys := by simpa using hd
      have hab : cmpN a b = 0 := by rw [← va, ← vb, he]; simp [cmpN]
      have H := Lib.hid hab
      clear va vb hab he hd
      go_wp2
      go_ret
      exact ⟨ret_int H.out.symm, hE.trans hx⟩
    | succ k =>
      have hl := HL.out
      have hkx : k < xs.length := by omega
      have hky : k < ys.length := by omega
      obtain ⟨ad, u, rfl, hb1, hu1, hc1⟩ := (q4.below hx).at_ (k := k) (by omega)
      obtain ⟨bd, v, rfl, hb2, hv1, hc2⟩ := (k4.below hx).at_ (k := k) (by omega)
      have hu2 : u = .int .u32 (xs[k] : Int) := by simpa [u32s, hkx] using hu1.symm
      have hv2 : v = .int .u32 (ys[k] : Int) := by simpa [u32s, hky] using hv1.symm
      subst hu2 hv2
      clear hu1 hv1 hl
      obtain ⟨x, hxx⟩ : ∃ x, x = xs[k] := ⟨_, rfl⟩
      obtain ⟨y, hyy⟩ : ∃ y, y = ys[k] := ⟨_, rfl⟩
      rw [← hxx] at hc1
      rw [← hyy] at hc2
      have HX := Lib.hid hxx
      have HY := Lib.hid hyy
      have HD := Lib.hid hd
      clear hxx hyy hd
      by_cases hlt : x < y
      · have h5 : val xs < val ys := val_drop_lt da db HL.out k hkx HD.out (by rw [← HX.out, ← HY.out]; exact hlt)
        have hab : cmpN a b = -1 := by rw [← va, ← vb]; simp [cmpN, h5]
        have H := Lib.hid hab
        have hlt' : (x : Int) < y := by omega
        clear va vb hab h5
        go_wp2
        go_quiet (fail)
        go_wp2
        go_ret
        exact ⟨ret_int H.out.symm, hE.trans (hx.drewN _)⟩
      · by_cases hgt : y < x
        · have h5 : val ys < val xs := val_drop_lt db da HL.out.symm k hky HD.out.symm (by rw [← HX.out, ← HY.out]; omega)
          have hab : cmpN a b = 1 := by rw [← va, ← vb]; simp [cmpN, h5, Nat.lt_asymm h5]
          have H := Lib.hid hab
          have hgt' : (y : Int) < x := by omega
          clear va vb hab h5
          go_wp2
          go_quiet (fail)
          go_wp2
          go_quiet (fail)
          go_wp2
          go_ret
          exact ⟨ret_int H.out.symm, hE.trans ((hx.drewN _).drewN _)⟩
        · have hxy : x = y := by omega
          subst hxy
          clear hlt hgt
          go_wp2
          go_quiet (fail)
          go_wp2
          go_quiet (fail)
          go_wp2
          go_roundw
          case rel => exact ⟨k, by omega, by go_num, by rw [List.drop_eq_getElem_cons hkx, List.drop_eq_getElem_cons hky, HD.out, ← HX.out, ← HY.out], hx.drewN _⟩
          case measure => simp [intOf]; try omega

set_option maxHeartbeats 1000000 in
theorem rof_n {n : Nat} {w : World} (hn : n < 18446744073709551616) :
    Calls Tryd.prog 90 #[.int .u64 n] w (GivesN w n) := by
  have hn' : (n : Int) < 18446744073709551616 := by omega
  go_enter Tryd.func90, Tryd.ntmps90
  go_wp2_with fail
  have hd := ofLimbs_digs hn
  have hv := ofLimbs_val n
  have hu : U32s ((w.alloc (.cells #[.slice none 0 0] 30)).alloc (.cells #[.int .u32 ((n : Int) % 1000000000), .int .u32 ((n : Int) / 1000000000 % 1000000000), .int .u32 ((n : Int) / 1000000000 / 1000000000)] 70))
      (.slice (some ⟨w.heap.size + 1, 0, none⟩) 3 3) [n % 1000000000, n / 1000000000 % 1000000000, n / 1000000000 / 1000000000] := by
    refine U32s.of_own (base := w.heap.size) (e := 70) ?_ (Nat.le_refl _) (by omega)
    have := World.ownsRow_lit (base := w.heap.size) (e := 70) (size := 1) (w.alloc (.cells #[.slice none 0 0] 30)) #[.int .u32 ((n : Int) % 1000000000), .int .u32 ((n : Int) / 1000000000 % 1000000000), .int .u32 ((n : Int) / 1000000000 / 1000000000)] 3 (by simp) (by unfold maxLen; omega) rfl
    simpa [u32s] using this
  have hB : Boxes w (w.alloc (.cells #[.slice none 0 0] 30)) [[.slice none 0 0]] := (Boxes.nil_ w).alloc rfl [.slice none 0 0] 30
  have hB0 : Boxes w ((w.alloc (.cells #[.slice none 0 0] 30)).alloc (.cells #[.int .u32 ((n : Int) % 1000000000), .int .u32 ((n : Int) / 1000000000 % 1000000000), .int .u32 ((n : Int) / 1000000000 / 1000000000)] 70)) [[.slice none 0 0]] := hB.below ((Below.refl _ _).alloc (Nat.le_refl _) _)
  clear hB
  have hN : NatV ((w.alloc (.cells #[.slice none 0 0] 30)).alloc (.cells #[.int .u32 ((n : Int) % 1000000000), .int .u32 ((n : Int) / 1000000000 % 1000000000), .int .u32 ((n : Int) / 1000000000 / 1000000000)] 70)) (.slice (some ⟨w.heap.size + 1, 0, none⟩) 3 3) n :=
    ⟨_, hu, fun x hx => by have := hd x hx; omega, by simp, hv⟩
  clear hu hd hv
  generalize (w.alloc (.cells #[.slice none 0 0] 30)).alloc (.cells #[.int .u32 ((n : Int) % 1000000000), .int .u32 ((n : Int) / 1000000000 % 1000000000), .int .u32 ((n : Int) / 1000000000 / 1000000000)] 70) = W0 at *
  refine (norm_n hN).mono ?_
  rintro e w1 ⟨A1, k1, c1, rfl, h1, x1, n1⟩
  have hB1 := hB0.below x1
  obtain ⟨z1, zf1⟩ : w1.cell? ⟨w.heap.size, 0, none⟩ = some (.slice none 0 0) ∧ w1.frozen? ⟨w.heap.size, 0, none⟩ = false := hB1.cell 0 _ 0 _ rfl rfl
  have hs0 : w.heap.size + 1 ≤ W0.heap.size := hB0.size
  have hE := hB1.ext
  clear hB0 hB1
  go_wp2
  refine bodyPost_ret (v := .agg #[.slice A1 k1 c1]) (by simp [results, Tryd.results90, go_sem, World.cell?_setCell_same _ _ _ z1]) rfl ?_
  exact ⟨_, _, _, rfl, U32s.setNew h1 n1 (by show w.heap.size < _; omega) _, hE.setCell (Nat.le_refl _) _, n1.mono (by omega)⟩

end Go.Proofs.YtkjcbfaimonaoaaDoor
