/- Units of weight: the library's Sorted; Trim, Median. -/
import Derived.Test.YtbplkienkhinmaaGreatDoorUnI
import Derived.Test.YtbplkienkhinmaaGreatDoorUnSort
set_option linter.unusedVariables false
set_option linter.unusedSimpArgs false
set_option maxRecDepth 100000
namespace Go.Proofs.YtbplkienkhinmaaGreatDoor
open Go.RowKit Num

/-- The library's iterator value over the slice that a box holds. -/
abbrev valF (B : Nat) : Value := .func (.func 56) #[] #[.pointer (some ⟨B, 0, none⟩)]
/-- A new sorted list. -/
def GivesSo (w : World) (zs : List Int) (e : Ending) (w' : World) : Prop := ∃ g c, e = .returned (.slice (some ⟨g, 0, none⟩) zs.length c) ∧ RowI w.heap.size w' g zs.length c (insL zs) ∧ zs.length ≤ c ∧ c ≤ 9223372036854775807 ∧ Ext w w'
theorem usorted {Bs : Nat} {sv : Value} {zs : List Int} {w : World} (h1 : 1 ≤ zs.length) (h2 : zs.length ≤ 12) (hBs : Bs < w.heap.size) (hcs : w.cell? ⟨Bs, 0, none⟩ = some sv) (hI : IntsB w.heap.size w sv zs) :
    Calls Tryz.prog 33 #[valF Bs] w (GivesSo w zs) := by
  have H := Lib.hid (ucollect (by omega) hBs hcs hI)
  have HS := Lib.hid (fun (g c : Nat) (w' : World) (h : RowI w.heap.size w' g zs.length c zs) => usort h h1 h2)
  have H1 := Lib.hid h1
  clear hBs hcs hI h1 h2
  go_enter Tryz.func33, Tryz.ntmps33
  go_wp2_with fail
  refine H.out.mono ?_
  rintro e w1 ⟨v, rfl, hr, x1⟩
  obtain ⟨g, c, rfl, hc1, hc2⟩ : ∃ g c, v = .slice (some ⟨g, 0, none⟩) zs.length c ∧ zs.length ≤ c ∧ c ≤ 9223372036854775807 := by
    rcases hr.2 with ⟨_, h0⟩ | ⟨g, cap, cur, rfl, _, _, hc, hm, _, _⟩
    · have := H1.out; omega
    · exact ⟨g, cap, rfl, hc, hm⟩
  have HR := Lib.hid (show RowI w.heap.size w1 g zs.length c zs from hr)
  have HGB := Lib.hid (World.ownsRow.lt hr g rfl)
  clear hr
  go_wp2_with (go_at_call 55; (with_reducible refine (HS.out g c w1 HR.out).mono ?_); rintro e w2 ⟨rfl, h1, h2⟩)
  go_ret
  exact ⟨g, c, rfl, h1, hc1, hc2, Below.grown x1 h2 (by have := x1.size; omega) fun k hk => by cases hk; exact HGB.out.1⟩
/-- A list of ints that came in, as the iterator reads it. -/
theorem IntsV.b {w w' : World} {A : Option Addr} {c : Nat} {zs : List Int} (h : IntsV w (.slice A zs.length c) zs) (h1 : 1 ≤ zs.length) (hE : Ext w w') : IntsB w'.heap.size w' (.slice A zs.length c) zs := by
  obtain ⟨b, o, rfl, hb, _⟩ := ints_pl h (k := 0) (by omega)
  refine ⟨b, o, c, rfl, by have := hE.size; omega, fun j hj => ?_⟩
  obtain ⟨b', o', e, hb', hc⟩ := ints_pl h hj
  injection e with e
  injection e with e1 e2
  subst e1 e2
  rw [← List.getD_eq_getElem?_getD]
  exact (hE.cell (p := ⟨b, o + j, none⟩) hb').trans hc

theorem wsome_ok {us : List Int} {A : Option Addr} {c : Nat} {w : World} (hv : IntsV w (.slice A us.length c) us) (hu : Wts us) (hn : us.length ≤ 64) (h1 : 1 ≤ us.length) :
    Calls Tryz.prog 36 #[.slice A us.length c] w (fun e w' => e = .returned (.int .i64 0) ∧ w' = w) := by
  have H := Lib.hid (wcheck_ok hv hu hn)
  have h2 : (0 : Int) < (us.length : Int) := by omega
  clear hv hu
  go_enter Tryz.func36, Tryz.ntmps36
  go_wp2_with (go_at_call 32; (with_reducible refine H.out.mono ?_); rintro _ s1 ⟨rfl, rfl⟩)
  go_ret
  exact ⟨rfl, rfl⟩

theorem inner_mem {l : List Int} {x : Int} {n : Nat} (h : x ∈ ((insL l).drop 1).take n) : x ∈ l := insL_mem (List.mem_of_mem_drop (List.mem_of_mem_take h))
/-- The inner weights, in a row of the call's own. -/
theorem inner_ints {base g c : Nat} {w : World} {l : List Int} (h : RowI base w g l.length c (insL l)) (h2 : 2 ≤ l.length) (hc1 : l.length ≤ c) (hc2 : c ≤ 9223372036854775807) : IntsV w (.slice (some ⟨g, 1, none⟩) (l.length - 2) (c - 1)) (((insL l).drop 1).take (l.length - 2)) := by
  have hlen : (((insL l).drop 1).take (l.length - 2)).length = l.length - 2 := by rw [List.length_take, List.length_drop, insL_length]; omega
  refine ⟨some ⟨g, 1, none⟩, c - 1, by rw [hlen], by rw [hlen]; omega, by omega, ?_⟩
  rw [hlen]
  have hg : g < w.heap.size := (World.ownsRow.lt h g rfl).2
  refine ⟨by rw [i64l_length, hlen]; omega, fun hn => ⟨⟨g, 1, none⟩, rfl, hg, fun j u hu => ?_⟩⟩
  have ha : (⟨g, 1, none⟩ : Addr).add j = ⟨g, 1 + j, none⟩ := by
    unfold Addr.add
    by_cases hj : j = 0 <;> simp [hj]
  rw [ha]
  have hj : j < l.length - 2 := by
    have := (List.getElem?_eq_some_iff.1 hu).1
    simp [i64l] at this
    omega
  have h3 := (h.at_ (k := 1 + j) (by omega)).1
  rw [h3]
  unfold i64l at hu
  rw [List.getElem?_map, List.getElem?_take, if_pos hj, List.getElem?_drop] at hu
  rw [List.getD_eq_getElem?_getD]
  rw [List.getElem?_eq_getElem (show 1 + j < (insL l).length by rw [insL_length]; omega)] at hu ⊢
  simpa using hu

/-- The inner weights and no error. -/
def GivesTr (w : World) (l : List Int) (e : Ending) (w' : World) : Prop := ∃ A c, e = .returned (.tuple #[.slice A (l.length - 2) c, .int .i64 0]) ∧ IntsV w' (.slice A (l.length - 2) c) (((insL l).drop 1).take (l.length - 2)) ∧ Ext w w'
set_option maxHeartbeats 4000000 in
theorem utrim_ok {l : List Int} {A : Option Addr} {c : Nat} {w : World} (hv : IntsV w (.slice A l.length c) l) (hw : Wts l) (h2 : 2 ≤ l.length) (h6 : l.length ≤ 6) :
    Calls Tryz.prog 13 #[.slice A l.length c, .int .i64 1] w (GivesTr w l) := by
  have HCH := Lib.hid (wcheck_ok hv hw (by omega))
  have HSO := Lib.hid (usorted (w := w.alloc (.cells #[.slice A l.length c] 22)) (Bs := w.heap.size) (sv := .slice A l.length c) (zs := l) (by omega) (by omega) (by simp) (by simp [go_sem]) (hv.b (by omega) (ext_alloc (Below.refl _ _) _)))
  have HL := Lib.hid h2
  have HL6 := Lib.hid h6
  have hq : ¬ ((l.length : Int) / 2 < 1) := by omega
  have hqd : decide ((l.length : Int) / 2 < 1) = false := decide_eq_false hq
  clear hv hw
  go_enter Tryz.func13, Tryz.ntmps13
  go_upto_region 7 with (first
    | (go_at_call 32; (with_reducible refine HCH.out.mono ?_); rintro e w1 ⟨rfl, hw1⟩; obtain rfl : w = w1 := hw1.symm)
    | (go_at_call 34; (with_reducible refine uvalues_in.mono ?_); rintro e w2 ⟨rfl, hw2⟩; subst hw2)
    | (go_at_call 33; (with_reducible refine HSO.out.mono ?_); rintro e w3 ⟨g, c3, rfl, hr, hc1, hc2, x3⟩))
  have hx3 : Ext w w3 := (ext_alloc (Below.refl _ _) _).trans x3
  have HIN := Lib.hid (inner_ints hr h2 hc1 hc2)
  clear hr x3
  have hc9 : ¬ (c3 = 1) := by omega
  have hc8 : ¬ c3 ≤ 1 := by omega
  have hc7 : 1 ≤ c3 := by omega
  have hg2 : 1 ≤ l.length := by omega
  have hg3 : (1 : Int) ≤ (l.length : Int) - 1 := by omega
  have hg4 : (l.length : Int) - 1 ≤ (c3 : Int) := by omega
  go_wp2
  rw [show l.length - 1 - 1 = l.length - 2 from by omega]
  go_ret2
  exact ⟨_, _, rfl, HIN.out, hx3⟩

theorem utrim_no {l : List Int} {A : Option Addr} {c : Nat} {w : World} (hv : IntsV w (.slice A l.length c) l) (hw : Wts l) (h1 : l.length = 1) :
    Calls Tryz.prog 13 #[.slice A l.length c, .int .i64 1] w (fun e w' => e = .returned (.tuple #[.slice none 0 0, .int .i64 2]) ∧ w' = w) := by
  rw [h1]
  have h0 := wcheck_ok hv hw (by omega)
  rw [h1] at h0
  have HCH := Lib.hid h0
  have v12 : (1 : Int).tdiv 2 = 0 := by decide
  have v13 : IntKind.i64.wrap 0 = 0 := by decide
  clear hv hw h1 h0
  go_enter Tryz.func13, Tryz.ntmps13
  go_wp2_with (go_at_call 32; (with_reducible refine HCH.out.mono ?_); rintro e w1 ⟨rfl, hw1⟩; obtain rfl : w = w1 := hw1.symm)
  go_ret2
  exact ⟨rfl, rfl⟩

theorem sort4 : insL [4, 9, 2, 4] = [2, 4, 4, 9] := by decide
theorem wts4 : Wts [4, 9, 2, 4] := fun u hu => by
  simp only [List.mem_cons, List.not_mem_nil, or_false] at hu
  omega
theorem some4 {A : Option Addr} {c : Nat} {w : World} (hv : IntsV w (.slice A 4 c) [4, 9, 2, 4]) : Calls Tryz.prog 36 #[.slice A 4 c] w (fun e w'' => e = .returned (.int .i64 0) ∧ w'' = w) :=
  wsome_ok (us := [4, 9, 2, 4]) hv wts4 (by decide) (by decide)
def GivesSo4 (w : World) (e : Ending) (w' : World) : Prop := ∃ g c, e = .returned (.slice (some ⟨g, 0, none⟩) 4 c) ∧ RowI w.heap.size w' g 4 c [2, 4, 4, 9] ∧ Ext w w'
theorem sorted4 {Bs : Nat} {sv : Value} {w : World} (hBs : Bs < w.heap.size) (hcs : w.cell? ⟨Bs, 0, none⟩ = some sv) (hI : IntsB w.heap.size w sv [4, 9, 2, 4]) :
    Calls Tryz.prog 33 #[valF Bs] w (GivesSo4 w) :=
  (usorted (zs := [4, 9, 2, 4]) (by decide) (by decide) hBs hcs hI).mono fun e w' h => by
    obtain ⟨g, c, h1, h2, _, _, h3⟩ := h
    rw [sort4] at h2
    exact ⟨g, c, h1, h2, h3⟩
set_option maxHeartbeats 4000000 in
theorem umedian4 {A : Option Addr} {c : Nat} {w : World} (hv : IntsV w (.slice A 4 c) [4, 9, 2, 4]) :
    Calls Tryz.prog 15 #[.slice A 4 c] w (GivesFE w (((8 : Int) : Rat) / ((2 : Int) : Rat))) := by
  have HV := Lib.hid hv
  have HCH := Lib.hid (fun (w' : World) (h : Ext w w') => some4 (hv.below h))
  have HSO := Lib.hid (fun (w' : World) (h : Ext w w') => sorted4 (w := w'.alloc (.cells #[.slice A 4 c] 22)) (Bs := w'.heap.size) (sv := .slice A 4 c) (by simp) (by simp [go_sem]) (IntsV.b (zs := [4, 9, 2, 4]) hv (by decide) (ext_alloc h _)))
  clear hv
  go_enter Tryz.func15, Tryz.ntmps15
  go_upto_region 1 with (fail)
  have hF0 := FBox.new w (.bool false) (.slice none 0 0) (.slice none 0 0) 27
  have x0 : Ext w (w.alloc (.cells #[.bool false, .slice none 0 0, .slice none 0 0] 27)) := ext_alloc (Below.refl _ _) _
  have hs0 : w.heap.size + 1 ≤ (w.alloc (.cells #[.bool false, .slice none 0 0, .slice none 0 0] 27)).heap.size := by simp
  generalize w.alloc (.cells #[.bool false, .slice none 0 0, .slice none 0 0] 27) = W0 at *
  have HF := Lib.hid (fun (w' : World) (h : Ext W0 w') => hF0.below h)
  have HE := Lib.hid x0
  have f0 : Ext W0 W0 := Below.refl _ _
  obtain ⟨r0, r1, r2, g0, g1, g2⟩ := hF0
  clear x0
  go_upto_region 6 with (first
    | (go_at_call 36; (with_reducible refine (HCH.out W0 HE.out).mono ?_); rintro e w1 ⟨rfl, hw1⟩; obtain rfl : W0 = w1 := hw1.symm)
    | (go_at_call 34; (with_reducible refine uvalues_in.mono ?_); rintro e w2 ⟨rfl, hw2⟩; subst hw2)
    | (go_at_call 33; (with_reducible refine (HSO.out W0 HE.out).mono ?_); rintro e w3 ⟨g, c3, rfl, hr, x3⟩))
  have X3 : Ext W0 w3 := (ext_alloc (Below.refl _ _) _).trans x3
  have e1 := hr.at_ (k := 1) (by decide)
  have e2 := hr.at_ (k := 2) (by decide)
  have hgb : g < w3.heap.size := (World.ownsRow.lt hr g rfl).2
  have HS := Lib.hid (fun (w' : World) (h : Ext w3 w') => (⟨(h.cell (p := ⟨g, 1, none⟩) hgb).trans e1.1, (h.cell (p := ⟨g, 2, none⟩) hgb).trans e2.1⟩ : w'.cell? ⟨g, 1, none⟩ = some (.int .i64 4) ∧ w'.cell? ⟨g, 2, none⟩ = some (.int .i64 4)))
  clear e1 e2 hr r0 r1 r2 g0 g1 g2
  have v3 : IntKind.i64.wrap 3 = 3 := by decide
  have v31 : IntKind.i64.wrap ((3 : Int).tdiv 2) = 1 := by decide
  have v32 : (3 : Int).tdiv 2 = 1 := by decide
  have v41 : IntKind.i64.wrap ((4 : Int).tdiv 2) = 2 := by decide
  have v42 : (4 : Int).tdiv 2 = 2 := by decide
  have v1 : IntKind.i64.wrap 1 = 1 := by decide
  have v2 : IntKind.i64.wrap 2 = 2 := by decide
  have v8 : IntKind.i64.wrap 8 = 8 := by decide
  refine wp_region_G (fun w' => Ext w3 w') [13, 14] (by kernel_rfl) ?_
  have gS : Ext w3 w3.drew := (Below.refl _ _).drew
  refine wpAnyG_take 0 (v := ?_) rfl (by kernel_rfl) (by kernel_rfl) (by kernel_rfl) (by kernel_rfl) (by rfl) (by kernel_rfl) (fun _ _ _ h => h) (by rfl) (fun w' hw' => ?_) gS ?_
  rotate_left
  focus (go_simp; (try with_reducible rfl); done)
  (try simp only [Act.put, List.getElem_toArray, List.getElem_cons_succ, List.getElem_cons_zero, List.setIfInBounds_toArray, List.set_cons_zero, List.set_cons_succ])
  refine wpAnyG_take 1 (v := ?_) rfl (by kernel_rfl) (by kernel_rfl) (by kernel_rfl) (by kernel_rfl) (by rfl) (by kernel_rfl) (fun _ _ _ h => h) (by rfl) (fun w' hw' => ?_) gS ?_
  rotate_left
  focus (go_simp; (try with_reducible rfl); done)
  (try simp only [Act.put, List.getElem_toArray, List.getElem_cons_succ, List.getElem_cons_zero, List.setIfInBounds_toArray, List.set_cons_zero, List.set_cons_succ])
  refine wpAnyG_take 2 (v := ?_) rfl (by kernel_rfl) (by kernel_rfl) (by kernel_rfl) (by kernel_rfl) (by rfl) (by kernel_rfl) (fun _ _ _ h => h) (by rfl) (fun w' hw' => ?_) gS ?_
  rotate_left
  focus (go_simp; (try with_reducible rfl); done)
  (try simp only [Act.put, List.getElem_toArray, List.getElem_cons_succ, List.getElem_cons_zero, List.setIfInBounds_toArray, List.set_cons_zero, List.set_cons_succ])
  refine wpAnyG_take 3 (v := ?_) rfl (by kernel_rfl) (by kernel_rfl) (by kernel_rfl) (by kernel_rfl) (by rfl) (by kernel_rfl) (fun _ _ _ h => h) (by rfl) (fun w' hw' => ?_) gS ?_
  rotate_left
  focus (go_simp; (try with_reducible rfl); done)
  (try simp only [Act.put, List.getElem_toArray, List.getElem_cons_succ, List.getElem_cons_zero, List.setIfInBounds_toArray, List.set_cons_zero, List.set_cons_succ])
  refine wpAnyG_take 4 (v := ?_) rfl (by kernel_rfl) (by kernel_rfl) (by kernel_rfl) (by kernel_rfl) (by rfl) (by kernel_rfl) (fun _ _ _ h => h) (by rfl) (fun w' hw' => ?_) gS ?_
  rotate_left
  focus (go_simp; (try with_reducible rfl); done)
  (try simp only [Act.put, List.getElem_toArray, List.getElem_cons_succ, List.getElem_cons_zero, List.setIfInBounds_toArray, List.set_cons_zero, List.set_cons_succ])
  refine wpAnyG_take 5 (v := ?_) rfl (by kernel_rfl) (by kernel_rfl) (by kernel_rfl) (by kernel_rfl) (by rfl) (by kernel_rfl) (fun _ _ _ h => h) (by rfl) (fun w' hw' => ?_) gS ?_
  rotate_left
  focus (have hh := HS.out _ hw'; go_split_ands; go_simp; (try with_reducible rfl); done)
  (try simp only [Act.put, List.getElem_toArray, List.getElem_cons_succ, List.getElem_cons_zero, List.setIfInBounds_toArray, List.set_cons_zero, List.set_cons_succ])
  refine wpAnyG_take 6 (v := ?_) rfl (by kernel_rfl) (by kernel_rfl) (by kernel_rfl) (by kernel_rfl) (by rfl) (by kernel_rfl) (fun _ _ _ h => h) (by rfl) (fun w' hw' => ?_) gS ?_
  rotate_left
  focus (go_simp; (try with_reducible rfl); done)
  (try simp only [Act.put, List.getElem_toArray, List.getElem_cons_succ, List.getElem_cons_zero, List.setIfInBounds_toArray, List.set_cons_zero, List.set_cons_succ])
  refine wpAnyG_take 7 (v := ?_) rfl (by kernel_rfl) (by kernel_rfl) (by kernel_rfl) (by kernel_rfl) (by rfl) (by kernel_rfl) (fun _ _ _ h => h) (by rfl) (fun w' hw' => ?_) gS ?_
  rotate_left
  focus (go_simp; (try with_reducible rfl); done)
  (try simp only [Act.put, List.getElem_toArray, List.getElem_cons_succ, List.getElem_cons_zero, List.setIfInBounds_toArray, List.set_cons_zero, List.set_cons_succ])
  refine wpAnyG_take 8 (v := ?_) rfl (by kernel_rfl) (by kernel_rfl) (by kernel_rfl) (by kernel_rfl) (by rfl) (by kernel_rfl) (fun _ _ _ h => h) (by rfl) (fun w' hw' => ?_) gS ?_
  rotate_left
  focus (go_simp; (try with_reducible rfl); done)
  (try simp only [Act.put, List.getElem_toArray, List.getElem_cons_succ, List.getElem_cons_zero, List.setIfInBounds_toArray, List.set_cons_zero, List.set_cons_succ])
  refine wpAnyG_take 9 (v := ?_) rfl (by kernel_rfl) (by kernel_rfl) (by kernel_rfl) (by kernel_rfl) (by rfl) (by kernel_rfl) (fun _ _ _ h => h) (by rfl) (fun w' hw' => ?_) gS ?_
  rotate_left
  focus (go_simp; (try with_reducible rfl); done)
  (try simp only [Act.put, List.getElem_toArray, List.getElem_cons_succ, List.getElem_cons_zero, List.setIfInBounds_toArray, List.set_cons_zero, List.set_cons_succ])
  refine wpAnyG_take 10 (v := ?_) rfl (by kernel_rfl) (by kernel_rfl) (by kernel_rfl) (by kernel_rfl) (by rfl) (by kernel_rfl) (fun _ _ _ h => h) (by rfl) (fun w' hw' => ?_) gS ?_
  rotate_left
  focus (have hh := HS.out _ hw'; go_split_ands; go_simp; (try with_reducible rfl); done)
  (try simp only [Act.put, List.getElem_toArray, List.getElem_cons_succ, List.getElem_cons_zero, List.setIfInBounds_toArray, List.set_cons_zero, List.set_cons_succ])
  refine wpAnyG_take 11 (v := ?_) rfl (by kernel_rfl) (by kernel_rfl) (by kernel_rfl) (by kernel_rfl) (by rfl) (by kernel_rfl) (fun _ _ _ h => h) (by rfl) (fun w' hw' => ?_) gS ?_
  rotate_left
  focus (go_simp; (try with_reducible rfl); done)
  (try simp only [Act.put, List.getElem_toArray, List.getElem_cons_succ, List.getElem_cons_zero, List.setIfInBounds_toArray, List.set_cons_zero, List.set_cons_succ])
  refine wpAnyG_one 12 (by kernel_rfl) rfl (by rfl) (fun K hK => ?_)
  (try simp only [List.getElem_toArray, List.getElem_cons_succ, List.getElem_cons_zero])
  go_simp
  go_at_call 12
  refine (fof_n (n := 8) (d := 2) (by omega) (by omega)).mono ?_
  rintro _ s1 ⟨b1, A1, k1, c1, B1, l1, d1, rfl, h1, z1, n1, m1⟩
  have gP := gS
  have gS : Ext w3 s1 := Ext.trans gS z1
  (try go_wp2_with fail)
  refine hK.out _ _ (fun _ => gS) ?_
  clear hK K
  (try simp only [Act.put, List.getElem_toArray, List.getElem_cons_succ, List.getElem_cons_zero, List.setIfInBounds_toArray, List.set_cons_zero, List.set_cons_succ])
  obtain ⟨r0, r1, r2, g0, g1, g2⟩ := HF.out _ (X3.trans gS)
  refine wpAnyG_one 13 (by kernel_rfl) rfl (by rfl) (fun K hK => ?_)
  (try simp only [List.getElem_toArray, List.getElem_cons_succ, List.getElem_cons_zero])
  go_simp
  refine hK.out _ _ (fun h => absurd h (by decide)) ?_
  clear hK K
  (try simp only [Act.put, List.getElem_toArray, List.getElem_cons_succ, List.getElem_cons_zero, List.setIfInBounds_toArray, List.set_cons_zero, List.set_cons_succ])
  refine wpAnyG_one 14 (by kernel_rfl) rfl (by rfl) (fun K hK => ?_)
  (try simp only [List.getElem_toArray, List.getElem_cons_succ, List.getElem_cons_zero])
  go_simp
  refine hK.out _ _ (fun h => absurd h (by decide)) ?_
  clear hK K
  (try simp only [Act.put, List.getElem_toArray, List.getElem_cons_succ, List.getElem_cons_zero, List.setIfInBounds_toArray, List.set_cons_zero, List.set_cons_succ])
  refine wpAnyG_done (by kernel_rfl) ?_ _
  go_wp2
  obtain ⟨q0, q1, q2⟩ := set3 r0 r1 r2 (.bool b1) (.slice A1 k1 c1) (.slice B1 l1 d1)
  refine bodyPost_ret (v := .tuple #[.agg #[.bool b1, .slice A1 k1 c1, .slice B1 l1 d1], .int .i64 0]) (by simp [results, Tryz.results15, go_sem, q0, q1, q2]) rfl ?_
  exact GivesFE.box (B := w.heap.size) (HE.out.trans (X3.trans gS)) h1 (n1.mono (by have := (X3.trans gP).size; omega)) (m1.mono (by have := (X3.trans gP).size; omega)) (by omega)

end Go.Proofs.YtbplkienkhinmaaGreatDoor
