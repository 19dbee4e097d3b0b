/- sampling: Split's closure, which calls itself; Split. -/
import Derived.Test.YtnedgbebajhcpaaDoorSamC
set_option linter.unusedVariables false
set_option linter.unusedSimpArgs false
set_option maxRecDepth 100000
namespace Go.Proofs.YtnedgbebajhcpaaDoor
open Go.RowKit Num

/-- The closure: it captures the plan, itself, the greatest gain, the best way. -/
abbrev tryF (Db Tb Y X : Nat) : Value := .func (.func 41) #[] #[.pointer (some ⟨Db, 0, none⟩), .pointer (some ⟨Tb, 0, none⟩), .pointer (some ⟨Y, 0, none⟩), .pointer (some ⟨X, 0, none⟩)]
/-- The boxes: X the best way, Y its gain. -/
def TryS (w0 : World) (Db Tb Y X : Nat) (vD : Value) (w : World) (bs : List Nat) (q : Rat) : Prop :=
  Ext w0 w ∧ w.cell? ⟨Db, 0, none⟩ = some vD ∧ w.cell? ⟨Tb, 0, none⟩ = some (tryF Db Tb Y X) ∧
  (∃ A c, w.cell? ⟨X, 0, none⟩ = some (.slice A (natsS bs).length c) ∧ w.frozen? ⟨X, 0, none⟩ = false ∧ IntsV w (.slice A (natsS bs).length c) (natsS bs) ∧ Apart X Y (.slice A (natsS bs).length c)) ∧
  (∃ b A k c A' k' c', FBox w Y (.bool b) (.slice A k c) (.slice A' k' c') ∧ FracV w b (.slice A k c) (.slice A' k' c') q ∧ Apart X Y (.slice A k c) ∧ Apart X Y (.slice A' k' c')) ∧ FB q 200
/-- Where the boxes lie. -/
structure TryG (w0 : World) (Db Tb Y X : Nat) : Prop where
  d : w0.heap.size ≤ Db
  t : w0.heap.size ≤ Tb
  y : w0.heap.size ≤ Y
  x : w0.heap.size ≤ X
  dx : Db ≠ X
  dy : Db ≠ Y
  tx : Tb ≠ X
  ty : Tb ≠ Y
  xy : X ≠ Y
section
variable {w0 : World} {Db Tb Y X : Nat} {vD : Value}
theorem TryS.ext {w w' : World} {bs : List Nat} {q : Rat} (h : TryS w0 Db Tb Y X vD w bs q) (hx : Ext w w') : TryS w0 Db Tb Y X vD w' bs q := by
  obtain ⟨h1, h2, h3, ⟨A, c, h4, h5, h6, h7⟩, ⟨b, B, k, d, B', k', d', h8, h9, h10, h11⟩, h12⟩ := h
  have l1 := World.block_lt_of_cell? _ _ h2
  have l2 := World.block_lt_of_cell? _ _ h3
  have l3 := World.block_lt_of_cell? _ _ h4
  exact ⟨h1.trans hx, (hx.cell l1).trans h2, (hx.cell l2).trans h3, ⟨A, c, (hx.cell l3).trans h4, (hx.frozen l3).trans h5, h6.below hx, h7⟩, ⟨b, B, k, d, B', k', d', h8.below hx, h9.below hx, h10, h11⟩, h12⟩
/-- A better way is stored. -/
theorem TryS.put {w : World} {bs l : List Nat} {q g : Rat} {B : Option Addr} {c : Nat} {b : Bool} {A A' : Option Addr} {k k' d d' : Nat} (G : TryG w0 Db Tb Y X) (h : TryS w0 Db Tb Y X vD w bs q)
    (hl : IntsV w (.slice B (natsS l).length c) (natsS l)) (al : Apart X Y (.slice B (natsS l).length c)) (hg : FracV w b (.slice A k d) (.slice A' k' d') g) (a1 : Apart X Y (.slice A k d)) (a2 : Apart X Y (.slice A' k' d')) (fg : FB g 200) :
    TryS w0 Db Tb Y X vD ((((w.setCell ⟨X, 0, none⟩ (.slice B (natsS l).length c)).setCell ⟨Y, 0, none⟩ (.bool b)).setCell ⟨Y, 1, none⟩ (.slice A k d)).setCell ⟨Y, 2, none⟩ (.slice A' k' d')) l g ∧
    TExt X Y w ((((w.setCell ⟨X, 0, none⟩ (.slice B (natsS l).length c)).setCell ⟨Y, 0, none⟩ (.bool b)).setCell ⟨Y, 1, none⟩ (.slice A k d)).setCell ⟨Y, 2, none⟩ (.slice A' k' d')) := by
  obtain ⟨h1, h2, h3, ⟨A0, c0, h4, h5, h6, h7⟩, ⟨b0, B0, k0, d0, B0', k0', d0', h8, h9, h10, h11⟩, h12⟩ := h
  have l1 : Db < w.heap.size := World.block_lt_of_cell? _ _ h2
  have l2 : Tb < w.heap.size := World.block_lt_of_cell? _ _ h3
  have T1 : TExt X Y w (w.setCell ⟨X, 0, none⟩ (.slice B (natsS l).length c)) := (TExt.refl X Y w).set (.inl rfl) _
  have T4 : TExt X Y w ((((w.setCell ⟨X, 0, none⟩ (.slice B (natsS l).length c)).setCell ⟨Y, 0, none⟩ (.bool b)).setCell ⟨Y, 1, none⟩ (.slice A k d)).setCell ⟨Y, 2, none⟩ (.slice A' k' d')) := ((T1.set (.inr rfl) _).set (.inr rfl) _).set (.inr rfl) _
  have hxy : ∀ i j : Nat, (⟨X, i, none⟩ : Addr) ≠ ⟨Y, j, none⟩ := fun i j e => by injection e with e1; exact G.xy e1
  have hF : FBox (w.setCell ⟨X, 0, none⟩ (.slice B (natsS l).length c)) Y (.bool b0) (.slice B0 k0 d0) (.slice B0' k0' d0') := by
    obtain ⟨f0, f1, f2, f3, f4, f5⟩ := h8
    exact ⟨by rw [World.cell?_setCell_other _ _ _ _ (hxy 0 0)]; exact f0, by rw [World.cell?_setCell_other _ _ _ _ (hxy 0 1)]; exact f1, by rw [World.cell?_setCell_other _ _ _ _ (hxy 0 2)]; exact f2,
      by rw [World.frozen?_setCell]; exact f3, by rw [World.frozen?_setCell]; exact f4, by rw [World.frozen?_setCell]; exact f5⟩
  refine ⟨⟨TExt.ext h1 T4 G.x G.y, (T4.cell (p := ⟨Db, 0, none⟩) l1 G.dx G.dy).trans h2, (T4.cell (p := ⟨Tb, 0, none⟩) l2 G.tx G.ty).trans h3,
    ⟨B, c, ?_, ?_, hl.text T4 al, al⟩, ⟨b, A, k, d, A', k', d', hF.put _ _ _, hg.text T4 a1 a2, a1, a2⟩, fg⟩, T4⟩
  · rw [World.cell?_setCell_other _ _ _ _ (hxy 0 2).symm, World.cell?_setCell_other _ _ _ _ (hxy 0 1).symm, World.cell?_setCell_other _ _ _ _ (hxy 0 0).symm]
    exact World.cell?_setCell_same _ _ _ h4
  · rw [World.frozen?_setCell, World.frozen?_setCell, World.frozen?_setCell, World.frozen?_setCell]
    exact h5
end
/-- What a call of the closure does. -/
def TryC (w0 : World) (Db Tb Y X : Nat) (vD : Value) (D : List Nat) (k : Nat) : Prop :=
  ∀ (pre : List Nat) (left : Nat) (w : World) (bs : List Nat) (q : Rat) (A : Option Addr) (c : Nat), pre.length + k + 1 = D.length → pre.sum + left ≤ 12 → IntsV w (.slice A (natsS pre).length c) (natsS pre) → Apart X Y (.slice A (natsS pre).length c) →
    TryS w0 Db Tb Y X vD w bs q →
    Calls Tryd.prog 41 #[.slice A (natsS pre).length c, .int .i64 left, .pointer (some ⟨Db, 0, none⟩), .pointer (some ⟨Tb, 0, none⟩), .pointer (some ⟨Y, 0, none⟩), .pointer (some ⟨X, 0, none⟩)] w
      (fun e w' => e = .returned (.tuple #[]) ∧ TryS w0 Db Tb Y X vD w' (visit (gl D) k pre left (bs, q)).1 (visit (gl D) k pre left (bs, q)).2 ∧ TExt X Y w w')

theorem cells_one1 (w : World) (z : Int) (t : TypeId) : Reads (w.alloc (.cells #[.int .i64 z] t)) 1 (some ⟨w.heap.size, 0, none⟩) 1 (i64l [z]) :=
  ⟨rfl, fun _ => ⟨_, rfl, by simp, fun j u hu => cell_one w (.int .i64 z) t j u hu⟩⟩
theorem mem_le_sum {l : List Nat} {x : Nat} (h : x ∈ l) : x ≤ l.sum := by
  induction l with
  | nil => cases h
  | cons a t ih =>
    rw [List.sum_cons]
    rcases List.mem_cons.1 h with rfl | h
    · omega
    · have := ih h; omega

set_option maxHeartbeats 8000000 in
/-- No further number is to be chosen: the way is tried. -/
theorem try_zero {w0 : World} {Db Tb Y X : Nat} {A0 : Option Addr} {c0 : Nat} {D : List Nat} (hD : PlanN D) (hvD : IntsV w0 (.slice A0 (natsS D).length c0) (natsS D)) (G : TryG w0 Db Tb Y X) (ht : Tab10 w0) :
    TryC w0 Db Tb Y X (.slice A0 (natsS D).length c0) D 0 := by
  intro pre left w bs q A c hlen hsum hI hA hS
  have HTAB := Lib.hid (fun (w' : World) (h : Ext w0 w') => ht.ext h)
  have HVD := Lib.hid (fun (w' : World) (h : Ext w0 w') => hvD.below h)
  have hxl : X < w.heap.size := by obtain ⟨_, _, _, ⟨A1, c1, h4, _⟩, _⟩ := hS; exact World.block_lt_of_cell? _ _ h4
  have hyl : Y < w.heap.size := by obtain ⟨_, _, _, _, ⟨b1, B1, k1, d1, B1', k1', d1', h8, _⟩, _⟩ := hS; exact h8.lt
  have HGL := Lib.hid (gl_fb (D := D) (l := pre ++ [left]) hD (by rw [List.length_append]; simp; omega) (fun x hx => by
    rcases List.mem_append.1 hx with h | h
    · have := mem_le_sum h; omega
    · have : x = left := by simpa using h
      omega))
  have HGA := Lib.hid (fun (A B : Option Addr) (c d : Nat) (w : World) (hv : IntsV w (.slice A (natsS D).length c) (natsS D)) (hy : IntsV w (.slice B (natsS (pre ++ [left])).length d) (natsS (pre ++ [left]))) (ht : Tab10 w) => sgain_ok (l := pre ++ [left]) hD (by rw [List.length_append]; simp; omega) (fun x hx => by
    rcases List.mem_append.1 hx with h | h
    · have := mem_le_sum h; omega
    · have : x = left := by simpa using h
      omega) hv hy ht)
  have HVZ := Lib.hid (visit_zero (g := gl D) (pre := pre) (left := left) (s := (bs, q)))
  have hd4 := hD.1
  have HDL := Lib.hid (natsS_length D)
  have HPL := Lib.hid (natsS_length pre)
  have hcap : (natsS pre).length ≤ c ∧ c ≤ 9223372036854775807 := by obtain ⟨_, _, e, h1, h2, _⟩ := hI; injection e with e1 e2 e3; subst e3; exact ⟨h1, h2⟩
  have hrd : Reads w 1 A (natsS pre).length (i64l (natsS pre)) := by obtain ⟨_, _, e, _, _, h3⟩ := hI; injection e with e1 e2 e3; subst e1; exact h3
  obtain ⟨i0, hi, hz0, hz1, hz2⟩ := info_parts info_int
  have HS := Lib.hid hS
  have HG := Lib.hid G
  obtain ⟨_, hcD, hcT, _, _, hfq⟩ := hS
  have hP : ((natsS pre).length : Int) = (pre.length : Int) := by rw [HPL.out]
  have hw1 : IntKind.i64.wrap (((natsS D).length : Int) - 1) = (pre.length : Int) := by rw [wrap_in (by rw [HDL.out]; omega), HDL.out]; omega
  have hno : decide (((natsS pre).length : Int) < (pre.length : Int)) = false := decide_eq_false (by omega)
  have hno2 : ¬ (((natsS pre).length : Int) < (pre.length : Int)) := by omega
  have HRD := Lib.hid hrd
  have HAP := Lib.hid hA
  have hnp : (natsS pre).length ≤ 4 := by rw [HPL.out]; omega
  clear hD hvD ht hI hrd hA hP G
  go_enter Tryd.func41, Tryd.ntmps41
  go_wp2_with fail
  refine (clip_s hcap.1 hcap.2).mono ?_
  rintro e w5 ⟨rfl, hw5⟩
  obtain rfl : w = w5 := hw5.symm
  go_wp2_with (at_builtin; refine wpList_append_full _ (by rfl) (.tmp 32) (.tmp 34) 36 (by rfl) 3 i0 (.int .i64 0) 1 8 Tryd.underlying36 hi hz0 hz1 hz2 rfl (by omega) A (some ⟨w.heap.size, 0, none⟩) (natsS pre).length 1 1 (i64l (natsS pre)) (i64l [(left : Int)]) (by rfl) (by rfl) (HRD.out.alloc _) (cells_one1 w _ _) (by simp [i64l, Value.oneCell']) (by unfold maxLen; omega) (by omega) ?_
               intro ao' cap' w8 g1 g2 g3 g4 g5
               have e8 : Ext w w8 := (ext_alloc (Below.refl _ _) _).trans g4
               obtain ⟨hE08, hcD, _, _, _, _⟩ := HS.out.ext e8)
  have hl2 : (natsS pre).length + 1 = (natsS (pre ++ [left])).length := by rw [natsS_snoc, List.length_append]; rfl
  rw [hl2]
  have hI8 : IntsV w8 (.slice ao' (natsS (pre ++ [left])).length cap') (natsS (pre ++ [left])) := ⟨ao', cap', rfl, by rw [← hl2]; exact g1, g2, by rw [← hl2, natsS_snoc, ← i64l_snoc]; exact g3⟩
  have hA8 : Apart X Y (.slice ao' (natsS (pre ++ [left])).length cap') := by
    intro g hg
    cases hao : ao' with
    | none => rw [hao] at hg; cases hg
    | some ad =>
      rw [hao] at hg
      have hgb : g = ad.block := by simp [Value.ownBlock] at hg; exact hg.symm
      rcases g5 ad hao with h | h
      · exact HAP.out g (by rw [h, hgb]; simp [Value.ownBlock])
      · have : w.heap.size + 1 ≤ ad.block := by simpa using h
        omega
  have HS8 := Lib.hid (HS.out.ext e8)
  have HI8 := Lib.hid hI8
  have HA8 := Lib.hid hA8
  clear g1 g2 g3 g5 hI8 hA8
  go_wp2_with fail
  refine (HGA.out _ _ _ _ _ (HVD.out _ hE08) HI8.out (HTAB.out _ hE08)).mono ?_
  rintro e w9 ⟨b9, A9, k9, c9, A9', k9', c9', rfl, h9, y9, n9, n9'⟩
  have hs8 := e8.size
  obtain ⟨g, hg⟩ : ∃ g, g = gl D (pre ++ [left]) := ⟨_, rfl⟩
  rw [← hg] at h9 HGL
  go_upto_region 7 with (fail)
  have hB9 := y9.size
  have hG9 := FBox.new w9 (.bool b9) (.slice A9 k9 c9) (.slice A9' k9' c9') 28
  have Y9 : Ext w8 (w9.alloc (.cells #[.bool b9, .slice A9 k9 c9, .slice A9' k9' c9'] 28)) := ext_alloc y9 _
  have h9 := h9.below (ext_alloc (Below.refl _ _) (.cells #[.bool b9, .slice A9 k9 c9, .slice A9' k9' c9'] 28))
  have hsz9 : w9.heap.size < (w9.alloc (.cells #[.bool b9, .slice A9 k9 c9, .slice A9' k9' c9'] 28)).heap.size := by simp
  generalize w9.alloc (.cells #[.bool b9, .slice A9 k9 c9, .slice A9' k9' c9'] 28) = W9 at *
  generalize w9.heap.size = B9 at *
  have HS9 := Lib.hid (HS8.out.ext Y9)
  have HI9 := Lib.hid (HI8.out.below Y9)
  have h9f := FracV.any h9 HGL.out (by omega)
  obtain ⟨_, _, _, ⟨A1, c1, hcX, hfX, _, _⟩, ⟨bq, Bq, kq, dq, Bq', kq', dq', ⟨y0, y1, y2, gy0, gy1, gy2⟩, hv9, _, _⟩, _⟩ := HS9.out
  have hqf := FracV.any hv9 hfq (by omega)
  have HA9 := Lib.hid h9f
  have HQ9 := Lib.hid hqf
  have HH9 := Lib.hid h9
  have HG9 := Lib.hid (fun (w' : World) (h : Ext W9 w') => hG9.below h)
  obtain ⟨p0, p1, p2, _, _, _⟩ := hG9
  obtain ⟨z, hz⟩ : ∃ z, cmpQ g q = z := ⟨_, rfl⟩
  have HZ := Lib.hid hz
  have HZP := Lib.hid (show 0 < z ↔ q < g from by rw [← hz]; exact cmpQ_pos g q)
  have HGG := Lib.hid hg
  have hN9 : New w8.heap.size (.slice A9 k9 c9) := n9
  have hN9' : New w8.heap.size (.slice A9' k9' c9') := n9'
  clear h9 h9f hv9 hqf hz hg
  by_cases hzz : 0 < z
  · have e1 : decide (0 < z) = true := decide_eq_true hzz
    have HBT := Lib.hid (show visit (gl D) 0 pre left (bs, q) = (pre ++ [left], g) from by
      rw [HVZ.out]
      unfold better
      rw [← HGG.out, if_pos (HZP.out.1 hzz)])
    go_upto_region 8 with (go_at_call 14; (with_reducible refine (cmp_e HA9.out HQ9.out (by omega) HZ.out).mono ?_); rintro _ s4 ⟨rfl, z4⟩)
    have HS4 := Lib.hid (HS9.out.ext z4)
    obtain ⟨_, _, _, ⟨A1', c1', hcX', hfX', _, _⟩, ⟨br, Br, kr, dr, Br', kr', dr', ⟨y0', y1', y2', gy0', gy1', gy2'⟩, _, _, _⟩, _⟩ := HS4.out
    obtain ⟨p0', p1', p2', _, _, _⟩ := HG9.out _ z4
    have hxy := HG.out.xy
    have hxb : X ≠ B9 := by omega
    have hyb : Y ≠ B9 := by omega
    clear p0 p1 p2 y0 y1 y2 gy0 gy1 gy2 hcX hfX
    go_region
    all_goals (try go_wp2)
    all_goals go_end0
    all_goals
      have h := TryS.put (w := s4) HG.out HS4.out (HI9.out.below z4) HA8.out (HH9.out.below z4) (Apart.above hN9 (by omega) (by omega)) (Apart.above hN9' (by omega) (by omega)) HGL.out
      rw [HBT.out]
      first
        | exact ⟨rfl, h.1.ext (Below.refl _ _).drew, (TExt.of_ext (e8.trans (Y9.trans z4))).trans h.2.drew⟩
        | exact ⟨rfl, h.1, (TExt.of_ext (e8.trans (Y9.trans z4))).trans h.2⟩
  · have e1 : decide (0 < z) = false := decide_eq_false hzz
    have HBT := Lib.hid (show visit (gl D) 0 pre left (bs, q) = (bs, q) from by
      rw [HVZ.out]
      unfold better
      rw [← HGG.out, if_neg (fun h => hzz (HZP.out.2 h))])
    go_wp2_with (go_at_call 14; (with_reducible refine (cmp_e HA9.out HQ9.out (by omega) HZ.out).mono ?_); rintro _ s4 ⟨rfl, z4⟩)
    go_end0
    rw [HBT.out]
    exact ⟨rfl, HS9.out.ext z4, TExt.of_ext (e8.trans (Y9.trans z4))⟩

end Go.Proofs.YtnedgbebajhcpaaDoor
