/- The walk of EstimatorOrder. -/
import Derived.Test.YtkjcbfaimonaoaaDoorEstQ
import Derived.Test.YtkjcbfaimonaoaaDoorLwESums
set_option linter.unusedVariables false
set_option linter.unusedSimpArgs false
set_option maxRecDepth 100000
namespace Go.Proofs.YtkjcbfaimonaoaaDoor
open Go.RowKit Num

theorem seen_perm {zs ys : List Int} (h : zs.Perm ys) (k : Nat) : seen ys k = seen zs k := (h.count_eq _).symm
theorem good_perm {zs ys : List Int} (h : zs.Perm ys) : ∃ b n d er, ∀ x y w, IntsV w x zs → IntsV w y ys → Calls Tryd.prog 22 #[x] w (GivesP w b n d er) ∧ Calls Tryd.prog 22 #[y] w (GivesP w b n d er) := by
  by_cases hs : Samp zs
  · have hs' := hs.perm h
    have e1 := sum_perm h
    have e2 := h.length_eq
    have e3 : ∀ k : Int, ys.count k = zs.count k := fun k => (h.count_eq k).symm
    have e4 := seen_perm h
    by_cases hz : zs.sum = (seen zs 1 : Int)
    · exact ⟨_, _, _, _, fun x y w hx hy => ⟨(egood_z hx hs hz).mono fun _ _ h => h.p, (egood_z hy hs' (by rw [e4, ← e1]; exact hz)).mono fun _ _ h => h.p⟩⟩
    · refine ⟨_, _, _, _, fun x y w hx hy => ⟨(egood_ok hx hs hz).mono fun _ _ h => h.p, ?_⟩⟩
      have k := egood_ok hy hs' (by rw [e4, ← e1]; exact hz)
      rw [e4, ← e1, ← e2] at k
      exact k.mono fun _ _ h => h.p
  · exact ⟨_, _, _, _, fun x y w hx hy => ⟨(egood_no hx hs).mono fun _ _ h => h.p, (egood_no hy fun k => hs (k.perm h.symm)).mono fun _ _ h => h.p⟩⟩
theorem chao_perm {zs ys : List Int} (h : zs.Perm ys) : ∃ b n d er, ∀ x y w, IntsV w x zs → IntsV w y ys → Calls Tryd.prog 28 #[x] w (GivesP w b n d er) ∧ Calls Tryd.prog 28 #[y] w (GivesP w b n d er) := by
  by_cases hs : Samp zs
  · have hs' := hs.perm h
    have e1 := sum_perm h
    have e2 := h.length_eq
    have e3 : ∀ k : Int, ys.count k = zs.count k := fun k => (h.count_eq k).symm
    have e4 := seen_perm h
    by_cases h2 : zs.count 2 = 0
    · refine ⟨_, _, _, _, fun x y w hx hy => ⟨(echao_a hx hs h2).mono fun _ _ h => h.p, ?_⟩⟩
      have k := echao_a hy hs' (by rw [e3]; exact h2)
      rw [e4, ← e2] at k
      exact k.mono fun _ _ h => h.p
    · refine ⟨_, _, _, _, fun x y w hx hy => ⟨(echao_b hx hs (Nat.pos_of_ne_zero h2)).mono fun _ _ h => h.p, ?_⟩⟩
      have k := echao_b hy hs' (by rw [e3]; exact Nat.pos_of_ne_zero h2)
      rw [e4, e3, ← e2] at k
      exact k.mono fun _ _ h => h.p
  · exact ⟨_, _, _, _, fun x y w hx hy => ⟨(echao_no hx hs).mono fun _ _ h => h.p, (echao_no hy fun k => hs (k.perm h.symm)).mono fun _ _ h => h.p⟩⟩
theorem jack_perm {zs ys : List Int} (h : zs.Perm ys) : ∃ b n d er, ∀ x y w, IntsV w x zs → IntsV w y ys → Calls Tryd.prog 30 #[x] w (GivesP w b n d er) ∧ Calls Tryd.prog 30 #[y] w (GivesP w b n d er) := by
  by_cases hs : Samp zs
  · have hs' := hs.perm h
    have e1 := sum_perm h
    have e2 := h.length_eq
    have e3 : ∀ k : Int, ys.count k = zs.count k := fun k => (h.count_eq k).symm
    have e4 := seen_perm h
    refine ⟨_, _, _, _, fun x y w hx hy => ⟨(ejack_ok hx hs).mono fun _ _ h => h.p, ?_⟩⟩
    have k := ejack_ok hy hs'
    rw [e4, ← e1, ← e2] at k
    exact k.mono fun _ _ h => h.p
  · exact ⟨_, _, _, _, fun x y w hx hy => ⟨(ejack_no hx hs).mono fun _ _ h => h.p, (ejack_no hy fun k => hs (k.perm h.symm)).mono fun _ _ h => h.p⟩⟩
theorem cart_perm {zs ys : List Int} (h : zs.Perm ys) : ∃ b n d er, ∀ x y w, IntsV w x zs → IntsV w y ys → Calls Tryd.prog 32 #[x] w (GivesP w b n d er) ∧ Calls Tryd.prog 32 #[y] w (GivesP w b n d er) := by
  by_cases hs : Samp zs
  · have hs' := hs.perm h
    have e1 := sum_perm h
    have e2 := h.length_eq
    have e3 : ∀ k : Int, ys.count k = zs.count k := fun k => (h.count_eq k).symm
    have e4 := seen_perm h
    refine ⟨_, _, _, _, fun x y w hx hy => ⟨(ecart_ok hx hs).mono fun _ _ h => h.p, ?_⟩⟩
    have k := ecart_ok hy hs'
    rw [← e1, ← e2] at k
    exact k.mono fun _ _ h => h.p
  · exact ⟨_, _, _, _, fun x y w hx hy => ⟨(ecart_no hx hs).mono fun _ _ h => h.p, (ecart_no hy fun k => hs (k.perm h.symm)).mono fun _ _ h => h.p⟩⟩

set_option maxHeartbeats 8000000 in
theorem law_EOrder {A : Option Addr} {cc : Nat} {v1 : Value} {zs cs : List Int} {w : World} (hI : IntsV w (.slice A zs.length cc) zs) (hv1 : KInts .u8 w v1 cs) (hcs : ∀ c ∈ cs, 0 ≤ c ∧ c ≤ 255) (ht : Tab10 w) (hl : zs.length ≤ 80) (h0 : 0 < zs.length) :
    Calls Tryd.prog 8 #[.slice A zs.length cc, v1] w (fun e w' => e = .returned (.bool true) ∧ Ext w w') := by
  obtain ⟨i0, hi, hz0, hz1, hz2⟩ := info_parts info_int
  obtain ⟨ad, rfl, hadb, hadc⟩ := (show Reads w 1 A zs.length (i64l zs) from by obtain ⟨_, _, e, _, _, h⟩ := hI; injection e with e1 e2 e3; subst e1; exact h).2 h0
  obtain ⟨CA, ccap, rfl, hcc1, hcc2, hcr, _⟩ := hv1
  have HI := Lib.hid (fun (w' : World) (h : Ext w w') => hI.below h)
  have HAC := Lib.hid (fun (w' : World) (h : Ext w w') (j : Nat) (u : Value) (hu : (i64l zs)[j]? = some u) => (h.cell (p := ad.add j) (by rw [block_of_add]; exact hadb)).trans (hadc j u hu))
  have HCR := Lib.hid (fun (w' : World) (h : Ext w w') => hcr.below h)
  have HCS := Lib.hid hcs
  clear hI hadc hcr hcs
  go_enter Tryd.func8, Tryd.ntmps8
  go_upto_region 3 with (first
    | (go_at_call 12; (with_reducible refine (eawake ht).mono ?_); rintro e W1 ⟨rfl, x0⟩)
    | (go_at_call 13; (with_reducible refine (few_t hl).mono ?_); rintro e W1 ⟨rfl, rfl⟩))
  go_wp2_with (at_builtin; refine wpList_append_mine _ (by rfl) (.tmp 32) (.tmp 33) 22 (by rfl) W1.heap.size 3 i0 (.int .i64 0) 1 8 Tryd.underlying22 hi hz0 hz1 hz2 rfl (by omega) _ _ _ (by rfl) (World.ownsRow_lit (base := W1.heap.size) (size := 1) W1 #[] 0 (Nat.le_refl _) (by unfold maxLen; omega) rfl) ad zs.length cc (i64l zs) (by rfl) (by rw [i64l_length]; omega) (fun j u hu => HAC.out _ (ext_alloc x0 _) j u hu) (fun u hu => by obtain ⟨z, _, rfl⟩ := List.mem_map.1 hu; rfl) (by unfold maxLen; omega) (by omega) (by simp) ?_; intro v8 w8 ho8 hg8 hw8)
  have hE8 : Ext W1 w8 := Below.grown (ext_alloc (Below.refl _ _) _) hg8 (by simp) (fun b hb => by simp [Value.ownBlock] at hb; omega)
  have ho8 : w8.ownsRow W1.heap.size 3 1 v8 zs.length (i64l zs) := by simpa using ho8
  obtain ⟨g, cap, rfl, hgb, hglt⟩ := ho8.form h0
  clear hg8 hw8 hgb
  go_loopw [6, 7] (fun iv kv wr => ∃ (i : Nat) (ys : List Int), i ≤ zs.length ∧ iv = .int .i64 i ∧ ys.length = zs.length ∧ zs.Perm ys ∧ wr.ownsRow W1.heap.size 3 1 (.slice (some ⟨g, 0, none⟩) zs.length cap) zs.length (i64l ys) ∧ Ext W1 wr) (fun iv _ _ => zs.length - (intOf iv).toNat)
  case atStart => exact ⟨0, zs, Nat.zero_le _, rfl, rfl, List.Perm.refl _, ho8, hE8⟩
  case round =>
    clear ho8 hE8
    obtain ⟨i, ys, hi', rfl, hyl, hperm, hO, hE⟩ := hrel
    by_cases hil : i < zs.length ∧ i < cs.length
    · obtain ⟨cad, cu, rfl, hcb, hcu, hcc⟩ := (HCR.out _ (x0.trans hE)).at_ hil.2
      obtain ⟨c, hc9, rfl⟩ : ∃ c : Int, (0 ≤ c ∧ c ≤ 255) ∧ cu = .int .u8 c := by
        rw [List.getElem?_map, List.getElem?_eq_getElem hil.2] at hcu
        exact ⟨cs[i], HCS.out _ (List.getElem_mem _), by simpa using hcu.symm⟩
      obtain ⟨c, rfl⟩ := Int.eq_ofNat_of_zero_le hc9.1
      obtain ⟨r, hr⟩ : ∃ r : Nat, r = c % (zs.length - i) := ⟨_, rfl⟩
      have hrl : i + r < zs.length := by
        have := Nat.mod_lt c (show zs.length - i > 0 from by omega)
        omega
      have hwi := wrap_in (z := (c : Int)) (by omega)
      have hws : IntKind.i64.wrap ((zs.length : Int) - (i : Int)) = (zs.length : Int) - (i : Int) := wrap_in (by omega)
      have htm : Int.tmod (c : Int) ((zs.length : Int) - (i : Int)) = (r : Int) := by
        rw [show (zs.length : Int) - (i : Int) = ((zs.length - i : Nat) : Int) from by omega, hr]
        rfl
      have hem : (c : Int) % ((zs.length : Int) - (i : Int)) = (r : Int) := by
        rw [show (zs.length : Int) - (i : Int) = ((zs.length - i : Nat) : Int) from by omega, hr]
        rfl
      have hne : ¬ (zs.length : Int) - (i : Int) = 0 := by omega
      have hwr := wrap_in (z := (r : Int)) (by omega)
      obtain ⟨kk, hkk⟩ : ∃ kk : Nat, kk = i + r := ⟨_, rfl⟩
      have hwk : IntKind.i64.wrap ((i : Int) + (r : Int)) = (kk : Int) := by rw [wrap_in (by omega)]; omega
      have hi1 := hil.1
      have hi2 := hil.2
      have ki1 : (i : Int) < (zs.length : Int) := by omega
      have ki2 : (i : Int) < (cs.length : Int) := by omega
      have ki4 : (kk : Int) < (zs.length : Int) := by omega
      have ki6 : kk < zs.length := by omega
      have hcf := hO.cellAt i (by omega)
      have hff := hO.frozenAt i
      have hck := hO.cellAt kk (by omega)
      have hfk := hO.frozenAt kk
      rw [i64l_get _ (by omega)] at hcf hck
      have HP := Lib.hid (show zs.Perm ((ys.set i (ys.getD kk 0)).set kk (ys.getD i 0)) from by
        have e1 : ys.getD i 0 = ys[i]'(by omega) := by rw [List.getD_eq_getElem?_getD, List.getElem?_eq_getElem (by omega)]; rfl
        have e2 : ys.getD kk 0 = ys[kk]'(by omega) := by rw [List.getD_eq_getElem?_getD, List.getElem?_eq_getElem (by omega)]; rfl
        rw [e1, e2]
        exact hperm.trans (List.set_set_perm (by omega) (by omega)).symm)
      have HO := Lib.hid hO
      clear hO hperm hr hrl hcu hkk
      generalize ys.getD i 0 = yi at *
      generalize ys.getD kk 0 = yk at *
      have HHE := Lib.hid hE
      have hgb := (HO.out.lt g rfl).1
      by_cases hik : i = kk
      · subst hik
        have HP1 := Lib.hid (show zs.Perm ((ys.set i yi).set i yi) from by have := HP.out; rw [List.set_set] at this ⊢; exact this)
        go_upto_region 8 with (fail)
        go_region_law (fail)
        all_goals go_wp2
        all_goals go_roundw
        all_goals first
          | (refine ⟨i + 1, (ys.set i yi).set i yi, by omega, by go_num, by simp [hyl], HP1.out, ?_, (by first | ((repeat first | assumption | exact Below.refl _ _ | refine ext_alloc ?_ _ | refine ext_drew ?_ | refine ext_set ?_ (by first | omega | (simp; done) | (simp; omega)) _); done) | fail)⟩; rw [i64l_set, i64l_set]; exact ((HO.out.stored i _).1.stored i _).1)
          | (simp [intOf]; omega)
      · have hik' : ¬ kk = i := fun e => hik e.symm
        go_upto_region 8 with (fail)
        go_region_law (fail)
        all_goals go_wp2
        all_goals go_roundw
        all_goals first
          | (refine ⟨i + 1, (ys.set i yk).set kk yi, by omega, by go_num, by simp [hyl], HP.out, ?_, (by first | ((repeat first | assumption | exact Below.refl _ _ | refine ext_alloc ?_ _ | refine ext_drew ?_ | refine ext_set ?_ (by first | omega | (simp; done) | (simp; omega)) _); done) | fail)⟩; rw [i64l_set, i64l_set]; exact ((HO.out.stored i _).1.stored kk _).1)
          | (refine ⟨i + 1, (ys.set i yk).set kk yi, by omega, by go_num, by simp [hyl], HP.out, ?_, (by first | ((repeat first | assumption | exact Below.refl _ _ | refine ext_alloc ?_ _ | refine ext_drew ?_ | refine ext_set ?_ (by first | omega | (simp; done) | (simp; omega)) _); done) | fail)⟩; rw [i64l_set, i64l_set]; rw [← i64l_set, ← i64l_set, List.set_comm _ _ hik, i64l_set, i64l_set]; exact ((HO.out.stored kk _).1.stored i _).1)
          | (simp [intOf]; omega)
    · have hIm : IntsV wr (.slice (some ⟨g, 0, none⟩) zs.length cap) ys := IntsV.of_own hO
      have HL := Lib.hid (fun (w' : World) (h : Ext wr w') => HI.out _ ((x0.trans hE).trans h))
      have HM := Lib.hid (fun (w' : World) (h : Ext wr w') => hIm.below h)
      have XB := x0.trans hE
      have V0 : Ext wr wr := Below.refl _ _
      obtain ⟨ab, an, ad, ae, ha⟩ := good_perm hperm
      have Ha := Lib.hid ha
      clear ha
      obtain ⟨bb, bn, bd, be, hb⟩ := chao_perm hperm
      have Hb := Lib.hid hb
      clear hb
      obtain ⟨cb, cn, cd, ce, hc⟩ := jack_perm hperm
      have Hc := Lib.hid hc
      clear hc
      obtain ⟨db, dn, dd, de, hd⟩ := cart_perm hperm
      have Hd := Lib.hid hd
      clear hd
      have hend : ¬ (i : Int) < (zs.length : Int) ∨ ((i : Int) < (zs.length : Int) ∧ ¬ (i : Int) < (cs.length : Int)) := by omega
      clear hO hIm hE hperm hyl hil
      rcases hend with k1 | ⟨k1, k2⟩
      all_goals
        go_wp2_with fail
        refine ((Ha.out _ _ _ (HL.out _ V0) (HM.out _ V0)).1).mono ?_
        rintro e w1 ⟨A1, k1, c1, A1', k1', c1', rfl, p1, q1, y1, n1, n1'⟩
        clear n1 n1'
        go_upto_region 10 with (fail)
        have hG1 := FBox.new w1 (.bool ab) (.slice A1 k1 c1) (.slice A1' k1' c1') 32
        have Y1 : Ext wr (w1.alloc (.cells #[.bool ab, .slice A1 k1 c1, .slice A1' k1' c1'] 32)) := ext_alloc y1 _
        have p1 := p1.below (ext_alloc (Below.refl _ _) (.cells #[.bool ab, .slice A1 k1 c1, .slice A1' k1' c1'] 32))
        have q1 := q1.below (ext_alloc (Below.refl _ _) (.cells #[.bool ab, .slice A1 k1 c1, .slice A1' k1' c1'] 32))
        have hsz1 : w1.heap.size < (w1.alloc (.cells #[.bool ab, .slice A1 k1 c1, .slice A1' k1' c1'] 32)).heap.size := by simp
        generalize w1.alloc (.cells #[.bool ab, .slice A1 k1 c1, .slice A1' k1' c1'] 32) = W1 at *
        generalize w1.heap.size = B1 at *
        have HG1 := Lib.hid (fun (w' : World) (h : Ext W1 w') => hG1.below h)
        have HP1 := Lib.hid (fun (w' : World) (h : Ext W1 w') => (⟨p1.below h, q1.below h⟩ : CanV w' (.slice A1 k1 c1) an ∧ CanV w' (.slice A1' k1' c1') ad))
        have V1 := V0.trans Y1
        clear hG1 p1 q1 y1 hsz1
        go_wp2_with fail
        refine ((Ha.out _ _ _ (HL.out _ V1) (HM.out _ V1)).2).mono ?_
        rintro e w2 ⟨A2, k2, c2, A2', k2', c2', rfl, p2, q2, y2, n2, n2'⟩
        clear n2 n2'
        go_upto_region 11 with (fail)
        have hG2 := FBox.new w2 (.bool ab) (.slice A2 k2 c2) (.slice A2' k2' c2') 32
        have Y2 : Ext W1 (w2.alloc (.cells #[.bool ab, .slice A2 k2 c2, .slice A2' k2' c2'] 32)) := ext_alloc y2 _
        have p2 := p2.below (ext_alloc (Below.refl _ _) (.cells #[.bool ab, .slice A2 k2 c2, .slice A2' k2' c2'] 32))
        have q2 := q2.below (ext_alloc (Below.refl _ _) (.cells #[.bool ab, .slice A2 k2 c2, .slice A2' k2' c2'] 32))
        have hsz2 : w2.heap.size < (w2.alloc (.cells #[.bool ab, .slice A2 k2 c2, .slice A2' k2' c2'] 32)).heap.size := by simp
        generalize w2.alloc (.cells #[.bool ab, .slice A2 k2 c2, .slice A2' k2' c2'] 32) = W2 at *
        generalize w2.heap.size = B2 at *
        have HG2 := Lib.hid (fun (w' : World) (h : Ext W2 w') => hG2.below h)
        have HP2 := Lib.hid (fun (w' : World) (h : Ext W2 w') => (⟨p2.below h, q2.below h⟩ : CanV w' (.slice A2 k2 c2) an ∧ CanV w' (.slice A2' k2' c2') ad))
        have V2 := V1.trans Y2
        clear hG2 p2 q2 y2 hsz2
        go_wp2_with fail
        refine ((Hb.out _ _ _ (HL.out _ V2) (HM.out _ V2)).1).mono ?_
        rintro e w3 ⟨A3, k3, c3, A3', k3', c3', rfl, p3, q3, y3, n3, n3'⟩
        clear n3 n3'
        go_upto_region 12 with (fail)
        have hG3 := FBox.new w3 (.bool bb) (.slice A3 k3 c3) (.slice A3' k3' c3') 32
        have Y3 : Ext W2 (w3.alloc (.cells #[.bool bb, .slice A3 k3 c3, .slice A3' k3' c3'] 32)) := ext_alloc y3 _
        have p3 := p3.below (ext_alloc (Below.refl _ _) (.cells #[.bool bb, .slice A3 k3 c3, .slice A3' k3' c3'] 32))
        have q3 := q3.below (ext_alloc (Below.refl _ _) (.cells #[.bool bb, .slice A3 k3 c3, .slice A3' k3' c3'] 32))
        have hsz3 : w3.heap.size < (w3.alloc (.cells #[.bool bb, .slice A3 k3 c3, .slice A3' k3' c3'] 32)).heap.size := by simp
        generalize w3.alloc (.cells #[.bool bb, .slice A3 k3 c3, .slice A3' k3' c3'] 32) = W3 at *
        generalize w3.heap.size = B3 at *
        have HG3 := Lib.hid (fun (w' : World) (h : Ext W3 w') => hG3.below h)
        have HP3 := Lib.hid (fun (w' : World) (h : Ext W3 w') => (⟨p3.below h, q3.below h⟩ : CanV w' (.slice A3 k3 c3) bn ∧ CanV w' (.slice A3' k3' c3') bd))
        have V3 := V2.trans Y3
        clear hG3 p3 q3 y3 hsz3
        go_wp2_with fail
        refine ((Hb.out _ _ _ (HL.out _ V3) (HM.out _ V3)).2).mono ?_
        rintro e w4 ⟨A4, k4, c4, A4', k4', c4', rfl, p4, q4, y4, n4, n4'⟩
        clear n4 n4'
        go_upto_region 13 with (fail)
        have hG4 := FBox.new w4 (.bool bb) (.slice A4 k4 c4) (.slice A4' k4' c4') 32
        have Y4 : Ext W3 (w4.alloc (.cells #[.bool bb, .slice A4 k4 c4, .slice A4' k4' c4'] 32)) := ext_alloc y4 _
        have p4 := p4.below (ext_alloc (Below.refl _ _) (.cells #[.bool bb, .slice A4 k4 c4, .slice A4' k4' c4'] 32))
        have q4 := q4.below (ext_alloc (Below.refl _ _) (.cells #[.bool bb, .slice A4 k4 c4, .slice A4' k4' c4'] 32))
        have hsz4 : w4.heap.size < (w4.alloc (.cells #[.bool bb, .slice A4 k4 c4, .slice A4' k4' c4'] 32)).heap.size := by simp
        generalize w4.alloc (.cells #[.bool bb, .slice A4 k4 c4, .slice A4' k4' c4'] 32) = W4 at *
        generalize w4.heap.size = B4 at *
        have HG4 := Lib.hid (fun (w' : World) (h : Ext W4 w') => hG4.below h)
        have HP4 := Lib.hid (fun (w' : World) (h : Ext W4 w') => (⟨p4.below h, q4.below h⟩ : CanV w' (.slice A4 k4 c4) bn ∧ CanV w' (.slice A4' k4' c4') bd))
        have V4 := V3.trans Y4
        clear hG4 p4 q4 y4 hsz4
        go_wp2_with fail
        refine ((Hc.out _ _ _ (HL.out _ V4) (HM.out _ V4)).1).mono ?_
        rintro e w5 ⟨A5, k5, c5, A5', k5', c5', rfl, p5, q5, y5, n5, n5'⟩
        clear n5 n5'
        go_upto_region 14 with (fail)
        have hG5 := FBox.new w5 (.bool cb) (.slice A5 k5 c5) (.slice A5' k5' c5') 32
        have Y5 : Ext W4 (w5.alloc (.cells #[.bool cb, .slice A5 k5 c5, .slice A5' k5' c5'] 32)) := ext_alloc y5 _
        have p5 := p5.below (ext_alloc (Below.refl _ _) (.cells #[.bool cb, .slice A5 k5 c5, .slice A5' k5' c5'] 32))
        have q5 := q5.below (ext_alloc (Below.refl _ _) (.cells #[.bool cb, .slice A5 k5 c5, .slice A5' k5' c5'] 32))
        have hsz5 : w5.heap.size < (w5.alloc (.cells #[.bool cb, .slice A5 k5 c5, .slice A5' k5' c5'] 32)).heap.size := by simp
        generalize w5.alloc (.cells #[.bool cb, .slice A5 k5 c5, .slice A5' k5' c5'] 32) = W5 at *
        generalize w5.heap.size = B5 at *
        have HG5 := Lib.hid (fun (w' : World) (h : Ext W5 w') => hG5.below h)
        have HP5 := Lib.hid (fun (w' : World) (h : Ext W5 w') => (⟨p5.below h, q5.below h⟩ : CanV w' (.slice A5 k5 c5) cn ∧ CanV w' (.slice A5' k5' c5') cd))
        have V5 := V4.trans Y5
        clear hG5 p5 q5 y5 hsz5
        go_wp2_with fail
        refine ((Hc.out _ _ _ (HL.out _ V5) (HM.out _ V5)).2).mono ?_
        rintro e w6 ⟨A6, k6, c6, A6', k6', c6', rfl, p6, q6, y6, n6, n6'⟩
        clear n6 n6'
        go_upto_region 15 with (fail)
        have hG6 := FBox.new w6 (.bool cb) (.slice A6 k6 c6) (.slice A6' k6' c6') 32
        have Y6 : Ext W5 (w6.alloc (.cells #[.bool cb, .slice A6 k6 c6, .slice A6' k6' c6'] 32)) := ext_alloc y6 _
        have p6 := p6.below (ext_alloc (Below.refl _ _) (.cells #[.bool cb, .slice A6 k6 c6, .slice A6' k6' c6'] 32))
        have q6 := q6.below (ext_alloc (Below.refl _ _) (.cells #[.bool cb, .slice A6 k6 c6, .slice A6' k6' c6'] 32))
        have hsz6 : w6.heap.size < (w6.alloc (.cells #[.bool cb, .slice A6 k6 c6, .slice A6' k6' c6'] 32)).heap.size := by simp
        generalize w6.alloc (.cells #[.bool cb, .slice A6 k6 c6, .slice A6' k6' c6'] 32) = W6 at *
        generalize w6.heap.size = B6 at *
        have HG6 := Lib.hid (fun (w' : World) (h : Ext W6 w') => hG6.below h)
        have HP6 := Lib.hid (fun (w' : World) (h : Ext W6 w') => (⟨p6.below h, q6.below h⟩ : CanV w' (.slice A6 k6 c6) cn ∧ CanV w' (.slice A6' k6' c6') cd))
        have V6 := V5.trans Y6
        clear hG6 p6 q6 y6 hsz6
        go_wp2_with fail
        refine ((Hd.out _ _ _ (HL.out _ V6) (HM.out _ V6)).1).mono ?_
        rintro e w7 ⟨A7, k7, c7, A7', k7', c7', rfl, p7, q7, y7, n7, n7'⟩
        clear n7 n7'
        go_upto_region 16 with (fail)
        have hG7 := FBox.new w7 (.bool db) (.slice A7 k7 c7) (.slice A7' k7' c7') 32
        have Y7 : Ext W6 (w7.alloc (.cells #[.bool db, .slice A7 k7 c7, .slice A7' k7' c7'] 32)) := ext_alloc y7 _
        have p7 := p7.below (ext_alloc (Below.refl _ _) (.cells #[.bool db, .slice A7 k7 c7, .slice A7' k7' c7'] 32))
        have q7 := q7.below (ext_alloc (Below.refl _ _) (.cells #[.bool db, .slice A7 k7 c7, .slice A7' k7' c7'] 32))
        have hsz7 : w7.heap.size < (w7.alloc (.cells #[.bool db, .slice A7 k7 c7, .slice A7' k7' c7'] 32)).heap.size := by simp
        generalize w7.alloc (.cells #[.bool db, .slice A7 k7 c7, .slice A7' k7' c7'] 32) = W7 at *
        generalize w7.heap.size = B7 at *
        have HG7 := Lib.hid (fun (w' : World) (h : Ext W7 w') => hG7.below h)
        have HP7 := Lib.hid (fun (w' : World) (h : Ext W7 w') => (⟨p7.below h, q7.below h⟩ : CanV w' (.slice A7 k7 c7) dn ∧ CanV w' (.slice A7' k7' c7') dd))
        have V7 := V6.trans Y7
        clear hG7 p7 q7 y7 hsz7
        go_wp2_with fail
        refine ((Hd.out _ _ _ (HL.out _ V7) (HM.out _ V7)).2).mono ?_
        rintro e w8 ⟨A8, k8, c8, A8', k8', c8', rfl, p8, q8, y8, n8, n8'⟩
        clear n8 n8'
        go_upto_region 17 with (fail)
        have hG8 := FBox.new w8 (.bool db) (.slice A8 k8 c8) (.slice A8' k8' c8') 32
        have Y8 : Ext W7 (w8.alloc (.cells #[.bool db, .slice A8 k8 c8, .slice A8' k8' c8'] 32)) := ext_alloc y8 _
        have p8 := p8.below (ext_alloc (Below.refl _ _) (.cells #[.bool db, .slice A8 k8 c8, .slice A8' k8' c8'] 32))
        have q8 := q8.below (ext_alloc (Below.refl _ _) (.cells #[.bool db, .slice A8 k8 c8, .slice A8' k8' c8'] 32))
        have hsz8 : w8.heap.size < (w8.alloc (.cells #[.bool db, .slice A8 k8 c8, .slice A8' k8' c8'] 32)).heap.size := by simp
        generalize w8.alloc (.cells #[.bool db, .slice A8 k8 c8, .slice A8' k8' c8'] 32) = W8 at *
        generalize w8.heap.size = B8 at *
        have HG8 := Lib.hid (fun (w' : World) (h : Ext W8 w') => hG8.below h)
        have HP8 := Lib.hid (fun (w' : World) (h : Ext W8 w') => (⟨p8.below h, q8.below h⟩ : CanV w' (.slice A8 k8 c8) dn ∧ CanV w' (.slice A8' k8' c8') dd))
        have V8 := V7.trans Y8
        clear hG8 p8 q8 y8 hsz8
        have E8 : Ext W8 W8 := Below.refl _ _
        have E7 : Ext W7 W8 := Y8.trans E8
        have E6 : Ext W6 W8 := Y7.trans E7
        have E5 : Ext W5 W8 := Y6.trans E6
        have E4 : Ext W4 W8 := Y5.trans E5
        have E3 : Ext W3 W8 := Y4.trans E4
        have E2 : Ext W2 W8 := Y3.trans E3
        have E1 : Ext W1 W8 := Y2.trans E2
        have f0 : Ext W8 W8 := Below.refl _ _
        obtain ⟨r10, r11, r12, _, _, _⟩ := HG1.out _ (E1.trans f0)
        obtain ⟨r20, r21, r22, _, _, _⟩ := HG2.out _ (E2.trans f0)
        obtain ⟨r30, r31, r32, _, _, _⟩ := HG3.out _ (E3.trans f0)
        obtain ⟨r40, r41, r42, _, _, _⟩ := HG4.out _ (E4.trans f0)
        obtain ⟨r50, r51, r52, _, _, _⟩ := HG5.out _ (E5.trans f0)
        obtain ⟨r60, r61, r62, _, _, _⟩ := HG6.out _ (E6.trans f0)
        obtain ⟨r70, r71, r72, _, _, _⟩ := HG7.out _ (E7.trans f0)
        obtain ⟨r80, r81, r82, _, _, _⟩ := HG8.out _ (E8.trans f0)
        have HQ1 := Lib.hid (fun (w' : World) (h : Ext W8 w') => (⟨HP1.out _ (E1.trans h), HP2.out _ (E2.trans h)⟩ : (CanV w' (.slice A1 k1 c1) an ∧ CanV w' (.slice A1' k1' c1') ad) ∧ (CanV w' (.slice A2 k2 c2) an ∧ CanV w' (.slice A2' k2' c2') ad)))
        have HQ2 := Lib.hid (fun (w' : World) (h : Ext W8 w') => (⟨HP3.out _ (E3.trans h), HP4.out _ (E4.trans h)⟩ : (CanV w' (.slice A3 k3 c3) bn ∧ CanV w' (.slice A3' k3' c3') bd) ∧ (CanV w' (.slice A4 k4 c4) bn ∧ CanV w' (.slice A4' k4' c4') bd)))
        have HQ3 := Lib.hid (fun (w' : World) (h : Ext W8 w') => (⟨HP5.out _ (E5.trans h), HP6.out _ (E6.trans h)⟩ : (CanV w' (.slice A5 k5 c5) cn ∧ CanV w' (.slice A5' k5' c5') cd) ∧ (CanV w' (.slice A6 k6 c6) cn ∧ CanV w' (.slice A6' k6' c6') cd)))
        have HQ4 := Lib.hid (fun (w' : World) (h : Ext W8 w') => (⟨HP7.out _ (E7.trans h), HP8.out _ (E8.trans h)⟩ : (CanV w' (.slice A7 k7 c7) dn ∧ CanV w' (.slice A7' k7' c7') dd) ∧ (CanV w' (.slice A8 k8 c8) dn ∧ CanV w' (.slice A8' k8' c8') dd)))
        go_wp2_with (first
          | (go_at_call 19; (with_reducible refine (bfrac_eq (HQ1.out _ (by first | ((repeat first | assumption | exact Below.refl _ _ | refine ext_alloc ?_ _ | refine ext_drew ?_ | refine ext_set ?_ (by first | omega | (simp; done) | (simp; omega)) _); done) | fail)).1.1 (HQ1.out _ (by first | ((repeat first | assumption | exact Below.refl _ _ | refine ext_alloc ?_ _ | refine ext_drew ?_ | refine ext_set ?_ (by first | omega | (simp; done) | (simp; omega)) _); done) | fail)).1.2 (HQ1.out _ (by first | ((repeat first | assumption | exact Below.refl _ _ | refine ext_alloc ?_ _ | refine ext_drew ?_ | refine ext_set ?_ (by first | omega | (simp; done) | (simp; omega)) _); done) | fail)).2.1 (HQ1.out _ (by first | ((repeat first | assumption | exact Below.refl _ _ | refine ext_alloc ?_ _ | refine ext_drew ?_ | refine ext_set ?_ (by first | omega | (simp; done) | (simp; omega)) _); done) | fail)).2.2).mono ?_); rintro e s1 ⟨rfl, z1⟩; have f1 : Ext W8 s1 := Ext.trans (by first | ((repeat first | assumption | exact Below.refl _ _ | refine ext_alloc ?_ _ | refine ext_drew ?_ | refine ext_set ?_ (by first | omega | (simp; done) | (simp; omega)) _); done) | fail) z1; obtain ⟨r30, r31, r32, _, _, _⟩ := HG3.out _ (E3.trans f1); obtain ⟨r40, r41, r42, _, _, _⟩ := HG4.out _ (E4.trans f1); obtain ⟨r50, r51, r52, _, _, _⟩ := HG5.out _ (E5.trans f1); obtain ⟨r60, r61, r62, _, _, _⟩ := HG6.out _ (E6.trans f1); obtain ⟨r70, r71, r72, _, _, _⟩ := HG7.out _ (E7.trans f1); obtain ⟨r80, r81, r82, _, _, _⟩ := HG8.out _ (E8.trans f1))
          | (go_at_call 19; (with_reducible refine (bfrac_eq (HQ2.out _ (by first | ((repeat first | assumption | exact Below.refl _ _ | refine ext_alloc ?_ _ | refine ext_drew ?_ | refine ext_set ?_ (by first | omega | (simp; done) | (simp; omega)) _); done) | fail)).1.1 (HQ2.out _ (by first | ((repeat first | assumption | exact Below.refl _ _ | refine ext_alloc ?_ _ | refine ext_drew ?_ | refine ext_set ?_ (by first | omega | (simp; done) | (simp; omega)) _); done) | fail)).1.2 (HQ2.out _ (by first | ((repeat first | assumption | exact Below.refl _ _ | refine ext_alloc ?_ _ | refine ext_drew ?_ | refine ext_set ?_ (by first | omega | (simp; done) | (simp; omega)) _); done) | fail)).2.1 (HQ2.out _ (by first | ((repeat first | assumption | exact Below.refl _ _ | refine ext_alloc ?_ _ | refine ext_drew ?_ | refine ext_set ?_ (by first | omega | (simp; done) | (simp; omega)) _); done) | fail)).2.2).mono ?_); rintro e s2 ⟨rfl, z2⟩; have f2 : Ext W8 s2 := Ext.trans (by first | ((repeat first | assumption | exact Below.refl _ _ | refine ext_alloc ?_ _ | refine ext_drew ?_ | refine ext_set ?_ (by first | omega | (simp; done) | (simp; omega)) _); done) | fail) z2; obtain ⟨r50, r51, r52, _, _, _⟩ := HG5.out _ (E5.trans f2); obtain ⟨r60, r61, r62, _, _, _⟩ := HG6.out _ (E6.trans f2); obtain ⟨r70, r71, r72, _, _, _⟩ := HG7.out _ (E7.trans f2); obtain ⟨r80, r81, r82, _, _, _⟩ := HG8.out _ (E8.trans f2))
          | (go_at_call 19; (with_reducible refine (bfrac_eq (HQ3.out _ (by first | ((repeat first | assumption | exact Below.refl _ _ | refine ext_alloc ?_ _ | refine ext_drew ?_ | refine ext_set ?_ (by first | omega | (simp; done) | (simp; omega)) _); done) | fail)).1.1 (HQ3.out _ (by first | ((repeat first | assumption | exact Below.refl _ _ | refine ext_alloc ?_ _ | refine ext_drew ?_ | refine ext_set ?_ (by first | omega | (simp; done) | (simp; omega)) _); done) | fail)).1.2 (HQ3.out _ (by first | ((repeat first | assumption | exact Below.refl _ _ | refine ext_alloc ?_ _ | refine ext_drew ?_ | refine ext_set ?_ (by first | omega | (simp; done) | (simp; omega)) _); done) | fail)).2.1 (HQ3.out _ (by first | ((repeat first | assumption | exact Below.refl _ _ | refine ext_alloc ?_ _ | refine ext_drew ?_ | refine ext_set ?_ (by first | omega | (simp; done) | (simp; omega)) _); done) | fail)).2.2).mono ?_); rintro e s3 ⟨rfl, z3⟩; have f3 : Ext W8 s3 := Ext.trans (by first | ((repeat first | assumption | exact Below.refl _ _ | refine ext_alloc ?_ _ | refine ext_drew ?_ | refine ext_set ?_ (by first | omega | (simp; done) | (simp; omega)) _); done) | fail) z3; obtain ⟨r70, r71, r72, _, _, _⟩ := HG7.out _ (E7.trans f3); obtain ⟨r80, r81, r82, _, _, _⟩ := HG8.out _ (E8.trans f3))
          | (go_at_call 19; (with_reducible refine (bfrac_eq (HQ4.out _ (by first | ((repeat first | assumption | exact Below.refl _ _ | refine ext_alloc ?_ _ | refine ext_drew ?_ | refine ext_set ?_ (by first | omega | (simp; done) | (simp; omega)) _); done) | fail)).1.1 (HQ4.out _ (by first | ((repeat first | assumption | exact Below.refl _ _ | refine ext_alloc ?_ _ | refine ext_drew ?_ | refine ext_set ?_ (by first | omega | (simp; done) | (simp; omega)) _); done) | fail)).1.2 (HQ4.out _ (by first | ((repeat first | assumption | exact Below.refl _ _ | refine ext_alloc ?_ _ | refine ext_drew ?_ | refine ext_set ?_ (by first | omega | (simp; done) | (simp; omega)) _); done) | fail)).2.1 (HQ4.out _ (by first | ((repeat first | assumption | exact Below.refl _ _ | refine ext_alloc ?_ _ | refine ext_drew ?_ | refine ext_set ?_ (by first | omega | (simp; done) | (simp; omega)) _); done) | fail)).2.2).mono ?_); rintro e s4 ⟨rfl, z4⟩; have f4 : Ext W8 s4 := Ext.trans (by first | ((repeat first | assumption | exact Below.refl _ _ | refine ext_alloc ?_ _ | refine ext_drew ?_ | refine ext_set ?_ (by first | omega | (simp; done) | (simp; omega)) _); done) | fail) z4))
        go_ret
        exact ⟨rfl, XB.trans (V8.trans f4)⟩


end Go.Proofs.YtkjcbfaimonaoaaDoor
