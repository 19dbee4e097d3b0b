/- occupancy: ways, share. -/
import Derived.Test.YtjdpkmngboiemaaDoorOcB
import Derived.Test.YtjdpkmngboiemaaDoorOwnS
import Derived.Test.YtjdpkmngboiemaaDoorHold
set_option linter.unusedVariables false
set_option linter.unusedSimpArgs false
set_option maxRecDepth 100000
namespace Go.Proofs.YtjdpkmngboiemaaDoor
open Go.RowKit Num

theorem upto_set (f : Nat → Nat) (n k m : Nat) : (upto_ f n).set k m = upto_ (fun j => if j = k then m else f j) n := by
  apply List.ext_getElem?
  intro j
  rw [List.getElem?_set]
  by_cases hj : j < n
  · rw [upto_at hj, upto_at hj, upto_length]
    by_cases h : k = j
    · subst h; simp [hj]
    · have h' : ¬ j = k := fun e => h e.symm
      simp [h, h']
  · have e1 : (upto_ f n)[j]? = none := List.getElem?_eq_none (by rw [upto_length]; omega)
    have e2 : (upto_ (fun j => if j = k then m else f j) n)[j]? = none := List.getElem?_eq_none (by rw [upto_length]; omega)
    rw [e1, e2, upto_length]
    split
    · rename_i h; subst h; simp [hj]
    · rfl
theorem upto_congr {f g : Nat → Nat} {n : Nat} (h : ∀ j, j < n → f j = g j) : upto_ f n = upto_ g n := List.map_congr_left fun j hj => h j (List.mem_range.1 hj)
/-- The row of the next specimen, its first k places written. -/
def wrow (i D k : Nat) (j : Nat) : Nat := if j < k then occ (i + 1) D j else 0
theorem wrow_zero (i D n : Nat) : upto_ (wrow i D 0) n = List.replicate n 0 := by
  apply List.ext_getElem?
  intro j
  by_cases hj : j < n
  · rw [upto_at hj, List.getElem?_replicate, if_pos hj]; rfl
  · rw [List.getElem?_eq_none (by rw [upto_length]; omega), List.getElem?_eq_none (by simp; omega)]
theorem wrow_next (i D n k : Nat) : (upto_ (wrow i D k) n).set k (occ (i + 1) D k) = upto_ (wrow i D (k + 1)) n := by
  rw [upto_set]
  refine upto_congr fun j _ => ?_
  unfold wrow
  by_cases h : j = k
  · subst h; rw [if_pos rfl, if_pos (by omega)]
  · rw [if_neg h]
    by_cases h2 : j < k
    · rw [if_pos h2, if_pos (by omega)]
    · rw [if_neg h2, if_neg (by omega)]
theorem wrow_all (i D : Nat) : upto_ (wrow i D (i + 2)) (i + 2) = upto_ (occ (i + 1) D) (i + 2) := upto_congr fun j hj => if_pos hj
theorem wrow_set_get {i D n k m : Nat} (h : k < n) : ((upto_ (wrow i D k) n).set k m)[k]? = some m := by rw [List.getElem?_set_self (by rw [upto_length]; exact h)]
theorem wrow_get {i D n k : Nat} (h : k < n) : (upto_ (wrow i D k) n)[k]? = some 0 := by rw [upto_at h]; unfold wrow; rw [if_neg (by omega)]
theorem own_zero {e : TypeId} {base B g n : Nat} {w : World} (h : w.ownsRow base e 1 (.slice (some ⟨g, 0, none⟩) n n) n (List.replicate n (.slice none 0 0))) : OwnN e base B w (.slice (some ⟨g, 0, none⟩) n n) (List.replicate n (.slice none 0 0)) (List.replicate n 0) := by
  refine ⟨by simpa using h, fun k u m hu hm => ?_⟩
  rw [List.getElem?_replicate] at hu hm
  split at hu
  · simp_all
    obtain rfl := hu
    obtain rfl := hm
    exact ⟨CanV.nil_ w, fun A n c g e => by simp at e, New.nil_ _⟩
  · simp at hu

theorem made_nil (n : Nat) : (madeCells #[Value.slice none 0 0] n).toList = List.replicate n (.slice none 0 0) := by
  refine List.ext_getElem (by simp [madeCells]) fun i h1 h2 => ?_
  simp [madeCells, Nat.mod_one]
section
variable {e : TypeId} {base B g n cap j : Nat} {w w1 : World} {v u : Value} {us : List Value} {ns : List Nat} {m : Nat}
theorem OwnN.write (h : OwnN e base B w (.slice (some ⟨g, 0, none⟩) n cap) us ns) (hn : ns.length = n) (hj : j < n) (hE : Ext w w1) (hu : CanV w1 u m) (hN : New w.heap.size u) (hB : B ≤ w.heap.size) :
    OwnN e base B (w1.setCell ⟨g, j, none⟩ u) (.slice (some ⟨g, 0, none⟩) n cap) (us.set j u) (ns.set j m) :=
  (h.ext hE).stored hn hj hu (Far.of_new hN fun g hg => (h.1.lt g hg).2) (hN.mono hB)
end
theorem cell_spotT {w : World} {p : Addr} {u : Value} (h : w.cell? p = some u) : p.spot = none := by
  unfold World.cell? at h
  split at h
  · split at h
    · cases h
    · simp_all
  · cases h
theorem NatsV.pl {B : Nat} {w : World} {A : Option Addr} {n c k m : Nat} {ns : List Nat} (h : NatsV B w (.slice A n c) ns) (hk : ns[k]? = some m) :
    ∃ b o A' k' c', A = some ⟨b, o, none⟩ ∧ b < w.heap.size ∧ w.cell? ⟨b, o + k, none⟩ = some (.slice A' k' c') ∧ CanV w (.slice A' k' c') m ∧ New B (.slice A' k' c') := by
  obtain ⟨ad, A', k', c', rfl, hb, hc, h1, h2⟩ := h.at_ hk
  have hlt : k < ns.length := (List.getElem?_eq_some_iff.1 hk).1
  obtain ⟨ad0, A0, k0, c0, e0, _, hc0, _, _⟩ := h.at_ (k := 0) (List.getElem?_eq_getElem (by omega))
  injection e0 with e0
  subst e0
  rw [add_nought] at hc0
  obtain ⟨bb, o, sp⟩ := ad
  have hsp : sp = none := cell_spotT hc0
  subst hsp
  have ha : ∀ j, (⟨bb, o, none⟩ : Addr).add j = ⟨bb, o + j, none⟩ := fun j => by
    unfold Addr.add
    by_cases hj : j = 0 <;> simp [hj]
  rw [ha] at hc
  exact ⟨bb, o, A', k', c', rfl, hb, hc, h1, h2⟩
theorem sumTo_mono {f : Nat → Nat} {n m : Nat} (h : n ≤ m) : sumTo f n ≤ sumTo f m := by
  induction m with
  | zero => rw [show n = 0 from by omega]; exact Nat.le_refl _
  | succ m ih =>
    by_cases e : n = m + 1
    · rw [e]; exact Nat.le_refl _
    · exact Nat.le_trans (ih (by omega)) (Nat.le_add_right _ _)
theorem occ_le (n D d : Nat) : occ n D d ≤ D ^ n := by
  by_cases h : d ≤ n
  · have h1 := sumTo_mono (f := occ n D) (n := d + 1) (m := n + 1) (by omega)
    rw [occ_sum] at h1
    have h2 : occ n D d ≤ sumTo (occ n D) (d + 1) := Nat.le_add_left _ _
    omega
  · rw [occ_gt (.inl (by omega))]; exact Nat.zero_le _
theorem occ_len {n D d : Nat} (hn : n ≤ 31) (hD : D ≤ 60) : (limbsOf (occ n D d)).length ≤ 32 := by
  have h1 := limbsOf_length_mono (occ_le n D d)
  have h2 : (limbsOf (D ^ n)).length ≤ n + 1 := len_of_le_pow (Nat.le_refl _) (by omega)
  omega

/-- What ways answers. -/
def GivesW (w : World) (ns : List Nat) (m : Nat) (e : Ending) (w' : World) : Prop :=
  ∃ A c A' k' c', e = .returned (.tuple #[.slice A ns.length c, .agg #[.slice A' k' c']]) ∧ NatsV w.heap.size w' (.slice A ns.length c) ns ∧ CanV w' (.slice A' k' c') m ∧ Ext w w' ∧ New w.heap.size (.slice A ns.length c) ∧ New w.heap.size (.slice A' k' c')

theorem NatsV.mono {B B' : Nat} {w : World} {v : Value} {ns : List Nat} (h : NatsV B w v ns) (hB : B' ≤ B) : NatsV B' w v ns := by
  obtain ⟨A, cap, us, h1, h2, h3, h4, h5⟩ := h
  exact ⟨A, cap, us, h1, h2, h3, h4, fun k u m hu hm => ⟨(h5 k u m hu hm).1, (h5 k u m hu hm).2.mono hB⟩⟩
/-- The end: the second answer stored in its box. -/
theorem GivesW.box {w w1 : World} {A : Option Addr} {l c m k' c' b B : Nat} {A' : Option Addr} {ns : List Nat} (hl : ns.length = l) (hE : Ext w w1) (h1 : NatsV B w1 (.slice A l c) ns) (h2 : CanV w1 (.slice A' k' c') m) (n1 : New (b + 1) (.slice A l c)) (n2 : New (b + 1) (.slice A' k' c')) (hb : w.heap.size ≤ b ∧ b < B) :
    GivesW w ns m (.returned (.tuple #[.slice A l c, .agg #[.slice A' k' c']])) (w1.setCell ⟨b, 0, none⟩ (.slice A' k' c')).drew := by
  subst hl
  exact ⟨A, c, A', k', c', rfl, ((NatsV.set (h1.mono hb.2) n1 (Nat.lt_succ_self _) _).mono (by omega)).ext (Below.refl _ _).drew, CanV.drew (U32s.setNew h2 n2 (Nat.lt_succ_self _) _), (hE.setCell hb.1 _).drew, n1.mono (by omega), n2.mono (by omega)⟩

set_option maxHeartbeats 8000000 in
theorem oways_n {n D : Nat} {w : World} (hn : n ≤ 30) (hD1 : 1 ≤ D) (hD : D ≤ 60) (ht : Tab10 w) :
    Calls Tryd.prog 73 #[.int .i64 n, .int .i64 D] w (GivesW w (upto_ (occ n D) (n + 1)) (D ^ n)) := by
  obtain ⟨i0, hi, hz0, hz1, hz2⟩ := info_parts info_nat
  have HT := Lib.hid (fun (w' : World) (h : Ext w w') => ht.ext h)
  clear ht
  go_enter Tryd.func73, Tryd.ntmps73
  go_upto_region 1 with (fail)
  have hB0 : (w.alloc (.cells #[.slice none 0 0] 25)).cell? ⟨w.heap.size, 0, none⟩ = some (.slice none 0 0) := by simp [go_sem]
  have hf0 : (w.alloc (.cells #[.slice none 0 0] 25)).frozen? ⟨w.heap.size, 0, none⟩ = false := by simp [go_sem]
  have x0 : Ext w (w.alloc (.cells #[.slice none 0 0] 25)) := ext_alloc (Below.refl _ _) _
  have hs0 : w.heap.size + 1 ≤ (w.alloc (.cells #[.slice none 0 0] 25)).heap.size := by simp
  generalize w.alloc (.cells #[.slice none 0 0] 25) = W0 at *
  have HE := Lib.hid x0
  have HR := Lib.hid (fun (w' : World) (h : Ext W0 w') => (⟨(h.cell (p := ⟨w.heap.size, 0, none⟩) (by show w.heap.size < _; omega)).trans hB0, (h.frozen (p := ⟨w.heap.size, 0, none⟩) (by show w.heap.size < _; omega)).trans hf0⟩ : w'.cell? ⟨w.heap.size, 0, none⟩ = some (.slice none 0 0) ∧ w'.frozen? ⟨w.heap.size, 0, none⟩ = false))
  clear x0 hB0 hf0
  go_wp2_with fail
  refine (of_n (n := 1) (by omega)).mono ?_
  rintro e w1 ⟨A1, k1, c1, rfl, h1, x1, n1⟩
  have hl := OwnN.lit (e := 25) (base := W0.heap.size) w1 x1.size h1 n1
  have hl2 := hl.nats
  have hx1 : Ext W0 (w1.alloc (.cells #[.slice A1 k1 c1] 25)) := ext_alloc x1 _
  clear hl n1 h1
  go_wp2
  generalize w1.alloc (.cells #[.slice A1 k1 c1] 25) = W1 at *
  go_loopw [6, 15] (fun ov iv wr => ∃ (i : Nat) (A : Option Addr) (c : Nat), i ≤ n ∧ iv = .int .i64 i ∧ ov = .slice A (i + 1) c ∧ NatsV W0.heap.size wr (.slice A (i + 1) c) (upto_ (occ i D) (i + 1)) ∧ Ext W0 wr ∧ New W0.heap.size (.slice A (i + 1) c))
    (fun _ iv _ => n - (intOf iv).toNat)
  case atStart => exact ⟨0, _, 1, Nat.zero_le _, by go_num, rfl, hl2, hx1, New.at_ x1.size⟩
  case round =>
    obtain ⟨i, A, c, hin, rfl, rfl, hv, hx, hnw⟩ := hrel
    by_cases hik : i < n
    · have hw1 : IntKind.i64.wrap ((i : Int) + 2) = (i : Int) + 2 := wrap_in (by omega)
      have hiI : (i : Int) < (n : Int) := by omega
      go_upto_region 6 with (at_make; refine wpList_make_full _ rfl _ _ 110 rfl wr.heap.size 25 i0 (.agg #[.slice none 0 0]) 1 Tryd.underlying110 hi hz0 hz1 _ _ _ _ (i + 2) rfl rfl (by omega) (by omega) ?b1 ?b2 ?b3 ?_)
      case b1 => rw [hz2]; omega
      case b2 => unfold maxLen; omega
      case b3 => exact Nat.le_refl _
      intro w4 hown hgrow
      rw [made_nil] at hown
      have hO4 : OwnN 25 wr.heap.size W0.heap.size w4 (.slice (some ⟨wr.heap.size, 0, none⟩) (i + 2) (i + 2)) (List.replicate (i + 2) (.slice none 0 0)) (upto_ (wrow i D 0) (i + 2)) := by rw [wrow_zero]; exact own_zero hown
      have hb4 : Ext wr w4 := (Below.refl _ _).grown hgrow (Nat.le_refl _) (by simp)
      clear hgrow hown
      obtain ⟨wo, hwo⟩ : ∃ wo : World, wo = wr := ⟨_, rfl⟩
      subst hwo
      go_wp2
      go_loopw [23] (fun iv wr => ∃ (k : Nat) (us : List Value), k ≤ i + 2 ∧ iv = .int .i64 k ∧ OwnN 25 wo.heap.size W0.heap.size wr (.slice (some ⟨wo.heap.size, 0, none⟩) (i + 2) (i + 2)) us (upto_ (wrow i D k) (i + 2)) ∧ Ext wo wr)
        (fun iv _ => i + 2 - (intOf iv).toNat)
      case atStart => exact ⟨0, _, Nat.zero_le _, rfl, hO4, hb4⟩
      case round =>
        clear hO4 hb4
        obtain ⟨k, us, hk, rfl, hown, hxs⟩ := hrel
        have hw0 := hx.size
        have hw2 := hxs.size
        by_cases hki : k < i + 2
        · obtain ⟨B6, k6, c6, hc6, hf6, hn6, _, _⟩ := hown.at_ (upto_length _ _) (wrow_get (i := i) (D := D) hki)
          have HOWN := Lib.hid hown
          have hb1 : (k : Int) < (i : Int) + 2 := by omega
          have hb2 : (0 : Int) ≤ (k : Int) := by omega
          have hu1 : IntKind.u64.wrap (k : Int) = (k : Int) := by rw [IntKind.wrap_u64]; omega
          clear hown
          by_cases hke : k ≤ i
          · obtain ⟨ab, ao, A5, k5, c5, rfl, hb5, hc5, hn5, _⟩ := hv.pl (k := k) (upto_at (by omega))
            have hc5'' := (hxs.cell (p := ⟨ab, ao + k, none⟩) hb5).trans hc5
            have hn5' := hn5.below hxs
            have HS := Lib.hid (fun (w' : World) (h : Ext wr w') => (⟨(h.cell (p := ⟨ab, ao + k, none⟩) (World.block_lt_of_cell? _ _ hc5'')).trans hc5'', (h.cell (p := ⟨wo.heap.size, k, none⟩) (World.block_lt_of_cell? _ _ hc6)).trans hc6, (h.frozen (p := ⟨wo.heap.size, k, none⟩) (World.block_lt_of_cell? _ _ hc6)).trans hf6⟩ : w'.cell? ⟨ab, ao + k, none⟩ = some (.slice A5 k5 c5) ∧ w'.cell? ⟨wo.heap.size, k, none⟩ = some (.slice B6 k6 c6) ∧ w'.frozen? ⟨wo.heap.size, k, none⟩ = false))
            have HB1 := Lib.hid (occ_len (n := i) (D := D) (d := k) (by omega) hD)
            have HN5 := Lib.hid (fun (w' : World) (h : Ext wr w') => (CanV.nat hn5' (by unfold Fit; have := HB1.out; omega)).below h)
            have HB2 := Lib.hid (len_small (x := k) (by omega))
            have hb3 : (k : Int) ≤ (i : Int) := by omega
            have hb4 : (k : Int) < (i : Int) + 1 := by omega
            have f0 : Ext wr wr := Below.refl _ _
            clear hn5 hc5 hn5' hb5
            go_upto_region 10 with (fail)
            refine wp_region_G (fun w' => Ext wr w') [11] (by kernel_rfl) ?_
            have gS : Ext wr wr.drew := (Below.refl _ _).drew
            refine wpAnyG_take 0 (v := ?_) rfl (by kernel_rfl) (by kernel_rfl) (by kernel_rfl) (by kernel_rfl) (by rfl) (by kernel_rfl) (fun _ _ _ h => h) (by rfl) (fun w' hw' => ?_) gS ?_
            rotate_left
            focus (go_simp; (try with_reducible rfl); done)
            (try simp only [Act.put, List.setIfInBounds_toArray, List.set_cons_zero, List.set_cons_succ])
            refine wpAnyG_take 1 (v := ?_) rfl (by kernel_rfl) (by kernel_rfl) (by kernel_rfl) (by kernel_rfl) (by rfl) (by kernel_rfl) (fun _ _ _ h => h) (by rfl) (fun w' hw' => ?_) gS ?_
            rotate_left
            focus (go_simp; (try with_reducible rfl); done)
            (try simp only [Act.put, List.setIfInBounds_toArray, List.set_cons_zero, List.set_cons_succ])
            refine wpAnyG_take 2 (v := ?_) rfl (by kernel_rfl) (by kernel_rfl) (by kernel_rfl) (by kernel_rfl) (by rfl) (by kernel_rfl) (fun _ _ _ h => h) (by rfl) (fun w' hw' => ?_) gS ?_
            rotate_left
            focus (go_simp; (try with_reducible rfl); done)
            (try simp only [Act.put, List.setIfInBounds_toArray, List.set_cons_zero, List.set_cons_succ])
            refine wpAnyG_take 3 (v := ?_) rfl (by kernel_rfl) (by kernel_rfl) (by kernel_rfl) (by kernel_rfl) (by rfl) (by kernel_rfl) (fun _ _ _ h => h) (by rfl) (fun w' hw' => ?_) gS ?_
            rotate_left
            focus (go_simp; (try with_reducible rfl); done)
            (try simp only [Act.put, List.setIfInBounds_toArray, List.set_cons_zero, List.set_cons_succ])
            refine wpAnyG_take 4 (v := ?_) rfl (by kernel_rfl) (by kernel_rfl) (by kernel_rfl) (by kernel_rfl) (by rfl) (by kernel_rfl) (fun _ _ _ h => h) (by rfl) (fun w' hw' => ?_) gS ?_
            rotate_left
            focus (go_simp; (try with_reducible rfl); done)
            (try simp only [Act.put, List.setIfInBounds_toArray, List.set_cons_zero, List.set_cons_succ])
            refine wpAnyG_take 5 (v := ?_) rfl (by kernel_rfl) (by kernel_rfl) (by kernel_rfl) (by kernel_rfl) (by rfl) (by kernel_rfl) (fun _ _ _ h => h) (by rfl) (fun w' hw' => ?_) gS ?_
            rotate_left
            focus (have hh := HS.out _ hw'; go_split_ands; go_simp; (try with_reducible rfl); done)
            (try simp only [Act.put, List.setIfInBounds_toArray, List.set_cons_zero, List.set_cons_succ])
            refine wpAnyG_take 6 (v := ?_) rfl (by kernel_rfl) (by kernel_rfl) (by kernel_rfl) (by kernel_rfl) (by rfl) (by kernel_rfl) (fun _ _ _ h => h) (by rfl) (fun w' hw' => ?_) gS ?_
            rotate_left
            focus (go_simp; (try with_reducible rfl); done)
            (try simp only [Act.put, List.setIfInBounds_toArray, List.set_cons_zero, List.set_cons_succ])
            refine wpAnyG_take 7 (v := ?_) rfl (by kernel_rfl) (by kernel_rfl) (by kernel_rfl) (by kernel_rfl) (by rfl) (by kernel_rfl) (fun _ _ _ h => h) (by rfl) (fun w' hw' => ?_) gS ?_
            rotate_left
            focus (go_simp; (try with_reducible rfl); done)
            (try simp only [Act.put, List.setIfInBounds_toArray, List.set_cons_zero, List.set_cons_succ])
            refine wpAnyG_one 8 (by kernel_rfl) rfl (by rfl) (fun K hK => ?_)
            go_simp
            go_at_call 51
            refine (of_n (n := k) (by omega)).mono ?_
            rintro e w7 ⟨A7, k7, c7, rfl, h7, x7, n7⟩
            have gS : Ext wr w7 := Ext.trans gS x7
            have e7 := gS
            (try go_wp2_with fail)
            refine hK.out _ _ (fun _ => gS) ?_
            clear hK K
            (try simp only [Act.put, List.setIfInBounds_toArray, List.set_cons_zero, List.set_cons_succ])
            refine wpAnyG_one 9 (by kernel_rfl) rfl (by rfl) (fun K hK => ?_)
            go_simp
            go_at_call 32
            refine (mul_n (HN5.out _ gS) (CanV.nat h7 (fit_small (by omega))) (by have := HB1.out; have := HB2.out; omega)).mono ?_
            rintro e w8 ⟨A8, k8, c8, rfl, h8, x8, n8⟩
            have gS : Ext wr w8 := Ext.trans gS x8
            have e8 := gS
            obtain ⟨hc5'', hc6, hf6⟩ := HS.out _ e8
            (try go_wp2_with fail)
            refine hK.out _ _ (fun _ => gS) ?_
            clear hK K
            (try simp only [Act.put, List.setIfInBounds_toArray, List.set_cons_zero, List.set_cons_succ])
            refine wpAnyG_take 10 (v := ?_) rfl (by kernel_rfl) (by kernel_rfl) (by kernel_rfl) (by kernel_rfl) (by rfl) (by kernel_rfl) (fun _ _ _ h => h) (by rfl) (fun w' hw' => ?_) gS ?_
            rotate_left
            focus (go_simp; (try with_reducible rfl); done)
            (try simp only [Act.put, List.setIfInBounds_toArray, List.set_cons_zero, List.set_cons_succ])
            refine wpAnyG_one 11 (by kernel_rfl) rfl (by rfl) (fun K hK => ?_)
            go_simp
            refine hK.out _ _ (fun h => absurd h (by decide)) ?_
            clear hK K
            (try simp only [Act.put, List.setIfInBounds_toArray, List.set_cons_zero, List.set_cons_succ])
            refine wpAnyG_done (by kernel_rfl) ?_ _
            clear gS
            all_goals
              have hs8 := e8.size
              have hs7 := e7.size
              have hOW := OwnN.write HOWN.out (upto_length _ _) hki e8 h8 (n8.mono (by omega)) (Nat.le_trans hw0 hw2)
              have xW : Ext wo (w8.setCell ⟨wo.heap.size, k, none⟩ (.slice A8 k8 c8)) := (hxs.trans e8).setCell (p := ⟨wo.heap.size, k, none⟩) (Nat.le_refl _) _
              clear h8 n8 x8 h7 n7 x7 hc5'' hc6 hf6 e7 hs7
              generalize w8.setCell ⟨wo.heap.size, k, none⟩ (.slice A8 k8 c8) = WB at *
              by_cases hk0 : k = 0
              · subst hk0
                go_wp2
                go_roundw
                case rel => exact ⟨1, _, by omega, by go_num, by rw [← wrow_next, occ_step_zero]; simpa using hOW, xW⟩
                case measure => first | (simp [intOf]; done) | (simp [intOf]; omega)
              · skip
                obtain ⟨j, rfl⟩ : ∃ j, k = j + 1 := ⟨k - 1, by omega⟩
                have HOW := Lib.hid (hOW)
                have HXW := Lib.hid (xW)
                (try clear hc6 hf6); (try clear hn6)
                obtain ⟨B9, k9, c9, hc9, hf9, hn9, _, _⟩ := HOW.out.at_ (by rw [List.length_set]; exact upto_length _ _) (wrow_set_get hki)
                obtain ⟨ab', ao', A10, k10, c10, he10, hb10, hc10, hn10, _⟩ := hv.pl (k := j) (upto_at (by omega))
                first | (injection he10 with he10; injection he10 with he10a he10b; subst he10a he10b) | subst he10
                have hc10w := (HXW.out.cell (p := ⟨_, _, none⟩) hb10).trans hc10
                have HB11 := Lib.hid (occ_len (n := i) (D := D) (d := j) (by omega) hD)
                have HB12 := Lib.hid (occ_len (n := i) (D := D) (d := j + 1) (by omega) hD)
                have HN10 := Lib.hid (fun (w' : World) (h : Ext WB w') => (CanV.nat (hn10.below HXW.out) (by unfold Fit; have := HB11.out; omega)).below h)
                obtain ⟨y, hy⟩ : ∃ y, y = occ i D (j + 1) * (j + 1) := ⟨_, rfl⟩
                rw [← hy] at hn9
                have HY := Lib.hid (show y = occ i D (j + 1) * (j + 1) from hy)
                have HB14 := Lib.hid (len_small (x := j + 1) (by omega))
                have HYL := Lib.hid (show (limbsOf y).length ≤ 40 from by rw [HY.out]; have h3 := limbsOf_length_mul (occ i D (j + 1)) (j + 1); have := HB12.out; have := HB14.out; omega)
                have HN9 := Lib.hid (fun (w' : World) (h : Ext WB w') => (CanV.nat hn9 (by unfold Fit; have := HYL.out; omega)).below h)
                obtain ⟨x, hx'⟩ : ∃ x, x = D - j := ⟨_, rfl⟩
                have hmx : max ((D : Int) - ((j : Int) + 1) + 1) 0 = (x : Int) := by omega
                have hxs1 : x ≤ 60 := by omega
                have HST := Lib.hid (show occ (i + 1) D (j + 1) = y + occ i D j * x from by rw [HY.out, hx']; exact occ_step i D j)
                clear hx' hy
                have HB13 := Lib.hid (len_small (x := x) (by omega))
                have hv1 : IntKind.i64.wrap ((j : Int) + 1 - 1) = (j : Int) := by rw [wrap_in (by omega)]; omega
                have hv1' : IntKind.i64.wrap (j : Int) = (j : Int) := wrap_in (by omega)
                have hv0 : (0 : Int) ≤ (j : Int) := by omega
                have hv2 : IntKind.i64.wrap ((D : Int) - ((j : Int) + 1)) = (D : Int) - ((j : Int) + 1) := wrap_in (by omega)
                have hv3 : IntKind.i64.wrap ((D : Int) - ((j : Int) + 1) + 1) = (D : Int) - ((j : Int) + 1) + 1 := wrap_in (by omega)
                have hv4 : IntKind.u64.wrap (x : Int) = (x : Int) := by rw [IntKind.wrap_u64]; omega
                have hv5 : (0 : Int) < (j : Int) + 1 := by omega
                have hv6 : (j : Int) < (i : Int) + 1 := by omega
                have hv7 : (j : Int) + 1 < (i : Int) + 2 := by omega
                have hv8 : (0 : Int) ≤ (j : Int) + 1 := by omega
                have HS2 := Lib.hid (fun (w' : World) (h : Ext WB w') => (⟨(h.cell (p := ⟨_, _, none⟩) (World.block_lt_of_cell? _ _ hc10w)).trans hc10w, (h.cell (p := ⟨wo.heap.size, j + 1, none⟩) (World.block_lt_of_cell? _ _ hc9)).trans hc9, (h.frozen (p := ⟨wo.heap.size, j + 1, none⟩) (World.block_lt_of_cell? _ _ hc9)).trans hf9⟩ : w'.cell? ⟨ab, ao + j, none⟩ = some (.slice A10 k10 c10) ∧ w'.cell? ⟨wo.heap.size, j + 1, none⟩ = some (.slice B9 k9 c9) ∧ w'.frozen? ⟨wo.heap.size, j + 1, none⟩ = false))
                have q0 : Ext WB WB := Below.refl _ _
                clear hn9 hn10 hc10 hb10
                go_upto_region 12 with (fail)
                have HS := Lib.hid (fun w' (h : Ext WB w') => HS2.out w' h)
                refine wp_region_G (fun w' => Ext WB w') [21] (by kernel_rfl) ?_
                have gS : Ext WB WB.drew := (Below.refl _ _).drew
                refine wpAnyG_take 0 (v := ?_) rfl (by kernel_rfl) (by kernel_rfl) (by kernel_rfl) (by kernel_rfl) (by rfl) (by kernel_rfl) (fun _ _ _ h => h) (by rfl) (fun w' hw' => ?_) gS ?_
                rotate_left
                focus (go_simp; (try with_reducible rfl); done)
                (try simp only [Act.put, List.setIfInBounds_toArray, List.set_cons_zero, List.set_cons_succ])
                refine wpAnyG_take 1 (v := ?_) rfl (by kernel_rfl) (by kernel_rfl) (by kernel_rfl) (by kernel_rfl) (by rfl) (by kernel_rfl) (fun _ _ _ h => h) (by rfl) (fun w' hw' => ?_) gS ?_
                rotate_left
                focus (go_simp; (try with_reducible rfl); done)
                (try simp only [Act.put, List.setIfInBounds_toArray, List.set_cons_zero, List.set_cons_succ])
                refine wpAnyG_take 2 (v := ?_) rfl (by kernel_rfl) (by kernel_rfl) (by kernel_rfl) (by kernel_rfl) (by rfl) (by kernel_rfl) (fun _ _ _ h => h) (by rfl) (fun w' hw' => ?_) gS ?_
                rotate_left
                focus (go_simp; (try with_reducible rfl); done)
                (try simp only [Act.put, List.setIfInBounds_toArray, List.set_cons_zero, List.set_cons_succ])
                refine wpAnyG_take 3 (v := ?_) rfl (by kernel_rfl) (by kernel_rfl) (by kernel_rfl) (by kernel_rfl) (by rfl) (by kernel_rfl) (fun _ _ _ h => h) (by rfl) (fun w' hw' => ?_) gS ?_
                rotate_left
                focus (go_simp; (try with_reducible rfl); done)
                (try simp only [Act.put, List.setIfInBounds_toArray, List.set_cons_zero, List.set_cons_succ])
                refine wpAnyG_take 4 (v := ?_) rfl (by kernel_rfl) (by kernel_rfl) (by kernel_rfl) (by kernel_rfl) (by rfl) (by kernel_rfl) (fun _ _ _ h => h) (by rfl) (fun w' hw' => ?_) gS ?_
                rotate_left
                focus (go_simp; (try with_reducible rfl); done)
                (try simp only [Act.put, List.setIfInBounds_toArray, List.set_cons_zero, List.set_cons_succ])
                refine wpAnyG_take 5 (v := ?_) rfl (by kernel_rfl) (by kernel_rfl) (by kernel_rfl) (by kernel_rfl) (by rfl) (by kernel_rfl) (fun _ _ _ h => h) (by rfl) (fun w' hw' => ?_) gS ?_
                rotate_left
                focus (have hh := HS.out _ hw'; go_split_ands; go_simp; (try with_reducible rfl); done)
                (try simp only [Act.put, List.setIfInBounds_toArray, List.set_cons_zero, List.set_cons_succ])
                refine wpAnyG_take 6 (v := ?_) rfl (by kernel_rfl) (by kernel_rfl) (by kernel_rfl) (by kernel_rfl) (by rfl) (by kernel_rfl) (fun _ _ _ h => h) (by rfl) (fun w' hw' => ?_) gS ?_
                rotate_left
                focus (go_simp; (try with_reducible rfl); done)
                (try simp only [Act.put, List.setIfInBounds_toArray, List.set_cons_zero, List.set_cons_succ])
                refine wpAnyG_take 7 (v := ?_) rfl (by kernel_rfl) (by kernel_rfl) (by kernel_rfl) (by kernel_rfl) (by rfl) (by kernel_rfl) (fun _ _ _ h => h) (by rfl) (fun w' hw' => ?_) gS ?_
                rotate_left
                focus (go_simp; (try with_reducible rfl); done)
                (try simp only [Act.put, List.setIfInBounds_toArray, List.set_cons_zero, List.set_cons_succ])
                refine wpAnyG_take 8 (v := ?_) rfl (by kernel_rfl) (by kernel_rfl) (by kernel_rfl) (by kernel_rfl) (by rfl) (by kernel_rfl) (fun _ _ _ h => h) (by rfl) (fun w' hw' => ?_) gS ?_
                rotate_left
                focus (go_simp; (try with_reducible rfl); done)
                (try simp only [Act.put, List.setIfInBounds_toArray, List.set_cons_zero, List.set_cons_succ])
                refine wpAnyG_take 9 (v := ?_) rfl (by kernel_rfl) (by kernel_rfl) (by kernel_rfl) (by kernel_rfl) (by rfl) (by kernel_rfl) (fun _ _ _ h => h) (by rfl) (fun w' hw' => ?_) gS ?_
                rotate_left
                focus (go_simp; (try with_reducible rfl); done)
                (try simp only [Act.put, List.setIfInBounds_toArray, List.set_cons_zero, List.set_cons_succ])
                refine wpAnyG_take 10 (v := ?_) rfl (by kernel_rfl) (by kernel_rfl) (by kernel_rfl) (by kernel_rfl) (by rfl) (by kernel_rfl) (fun _ _ _ h => h) (by rfl) (fun w' hw' => ?_) gS ?_
                rotate_left
                focus (have hh := HS.out _ hw'; go_split_ands; go_simp; (try with_reducible rfl); done)
                (try simp only [Act.put, List.setIfInBounds_toArray, List.set_cons_zero, List.set_cons_succ])
                refine wpAnyG_take 11 (v := ?_) rfl (by kernel_rfl) (by kernel_rfl) (by kernel_rfl) (by kernel_rfl) (by rfl) (by kernel_rfl) (fun _ _ _ h => h) (by rfl) (fun w' hw' => ?_) gS ?_
                rotate_left
                focus (go_simp; (try with_reducible rfl); done)
                (try simp only [Act.put, List.setIfInBounds_toArray, List.set_cons_zero, List.set_cons_succ])
                refine wpAnyG_take 12 (v := ?_) rfl (by kernel_rfl) (by kernel_rfl) (by kernel_rfl) (by kernel_rfl) (by rfl) (by kernel_rfl) (fun _ _ _ h => h) (by rfl) (fun w' hw' => ?_) gS ?_
                rotate_left
                focus (go_simp; (try with_reducible rfl); done)
                (try simp only [Act.put, List.setIfInBounds_toArray, List.set_cons_zero, List.set_cons_succ])
                refine wpAnyG_take 13 (v := ?_) rfl (by kernel_rfl) (by kernel_rfl) (by kernel_rfl) (by kernel_rfl) (by rfl) (by kernel_rfl) (fun _ _ _ h => h) (by rfl) (fun w' hw' => ?_) gS ?_
                rotate_left
                focus (go_simp; (try with_reducible rfl); done)
                (try simp only [Act.put, List.setIfInBounds_toArray, List.set_cons_zero, List.set_cons_succ])
                refine wpAnyG_take 14 (v := ?_) rfl (by kernel_rfl) (by kernel_rfl) (by kernel_rfl) (by kernel_rfl) (by rfl) (by kernel_rfl) (fun _ _ _ h => h) (by rfl) (fun w' hw' => ?_) gS ?_
                rotate_left
                focus (go_simp; (try with_reducible rfl); done)
                (try simp only [Act.put, List.setIfInBounds_toArray, List.set_cons_zero, List.set_cons_succ])
                refine wpAnyG_take 15 (v := ?_) rfl (by kernel_rfl) (by kernel_rfl) (by kernel_rfl) (by kernel_rfl) (by rfl) (by kernel_rfl) (fun _ _ _ h => h) (by rfl) (fun w' hw' => ?_) gS ?_
                rotate_left
                focus (go_simp; (try with_reducible rfl); done)
                (try simp only [Act.put, List.setIfInBounds_toArray, List.set_cons_zero, List.set_cons_succ])
                refine wpAnyG_take 16 (v := ?_) rfl (by kernel_rfl) (by kernel_rfl) (by kernel_rfl) (by kernel_rfl) (by rfl) (by kernel_rfl) (fun _ _ _ h => h) (by rfl) (fun w' hw' => ?_) gS ?_
                rotate_left
                focus (go_simp; (try with_reducible rfl); done)
                (try simp only [Act.put, List.setIfInBounds_toArray, List.set_cons_zero, List.set_cons_succ])
                refine wpAnyG_one 17 (by kernel_rfl) rfl (by rfl) (fun K hK => ?_)
                go_simp
                go_at_call 51
                refine (of_n (n := x) (by omega)).mono ?_
                rintro e w17 ⟨A17, k17, c17, rfl, h17, x17, n17⟩
                have gS : Ext WB w17 := Ext.trans gS x17
                have e17 := gS
                (try go_wp2_with fail)
                refine hK.out _ _ (fun _ => gS) ?_
                clear hK K
                (try simp only [Act.put, List.setIfInBounds_toArray, List.set_cons_zero, List.set_cons_succ])
                refine wpAnyG_one 18 (by kernel_rfl) rfl (by rfl) (fun K hK => ?_)
                go_simp
                go_at_call 32
                refine (mul_n (HN10.out _ gS) (CanV.nat h17 (fit_small (by omega))) (by have := HB11.out; have := HB13.out; omega)).mono ?_
                rintro e w18 ⟨A18, k18, c18, rfl, h18, x18, n18⟩
                have gS : Ext WB w18 := Ext.trans gS x18
                have e18 := gS
                (try go_wp2_with fail)
                refine hK.out _ _ (fun _ => gS) ?_
                clear hK K
                (try simp only [Act.put, List.setIfInBounds_toArray, List.set_cons_zero, List.set_cons_succ])
                refine wpAnyG_one 19 (by kernel_rfl) rfl (by rfl) (fun K hK => ?_)
                go_simp
                go_at_call 39
                refine (add_n (HN9.out _ gS) (CanV.nat h18 (by unfold Fit; have h3 := limbsOf_length_mul (occ i D j) x; have := HB11.out; have := HB13.out; omega)) (by have := HYL.out; omega) (by have h3 := limbsOf_length_mul (occ i D j) x; have := HB11.out; have := HB13.out; omega)).mono ?_
                rintro e w19 ⟨A19, k19, c19, rfl, h19, x19, n19⟩
                have gS : Ext WB w19 := Ext.trans gS x19
                have e19 := gS
                obtain ⟨hc10w, hc9, hf9⟩ := HS2.out _ e19
                (try go_wp2_with fail)
                refine hK.out _ _ (fun _ => gS) ?_
                clear hK K
                (try simp only [Act.put, List.setIfInBounds_toArray, List.set_cons_zero, List.set_cons_succ])
                refine wpAnyG_take 20 (v := ?_) rfl (by kernel_rfl) (by kernel_rfl) (by kernel_rfl) (by kernel_rfl) (by rfl) (by kernel_rfl) (fun _ _ _ h => h) (by rfl) (fun w' hw' => ?_) gS ?_
                rotate_left
                focus (go_simp; (try with_reducible rfl); done)
                (try simp only [Act.put, List.setIfInBounds_toArray, List.set_cons_zero, List.set_cons_succ])
                refine wpAnyG_one 21 (by kernel_rfl) rfl (by rfl) (fun K hK => ?_)
                go_simp
                refine hK.out _ _ (fun h => absurd h (by decide)) ?_
                clear hK K
                (try simp only [Act.put, List.setIfInBounds_toArray, List.set_cons_zero, List.set_cons_succ])
                refine wpAnyG_done (by kernel_rfl) ?_ _
                all_goals
                  have hs17 := e17.size
                  have hs18 := e18.size
                  have hsW := HXW.out.size
                  have hOW2 := OwnN.write HOW.out (by rw [List.length_set]; exact upto_length _ _) hki e19 h19 (n19.mono (by omega)) (Nat.le_trans hw0 hsW)
                  have xW2 : Ext wo (w19.setCell ⟨wo.heap.size, j + 1, none⟩ (.slice A19 k19 c19)) := (HXW.out.trans e19).setCell (p := ⟨wo.heap.size, j + 1, none⟩) (Nat.le_refl _) _
                  rw [← HST.out] at hOW2
                  clear h19 n19 x19 hc10w hc9 hf9
                  generalize w19.setCell ⟨wo.heap.size, j + 1, none⟩ (.slice A19 k19 c19) = WC at *
                  go_wp2
                  go_roundw
                  case rel => exact ⟨j + 2, _, by omega, by go_num, by rw [← wrow_next]; first | exact hOW2 | (simp only [List.set_set] at hOW2; exact hOW2), xW2⟩
                  case measure => first | (simp [intOf]; done) | (simp [intOf]; omega)
          · have hke2 : i < k := by omega
            have hb3 : ¬ ((k : Int) ≤ (i : Int)) := by omega
            obtain ⟨j, rfl⟩ : ∃ j, k = j + 1 := ⟨k - 1, by omega⟩
            have HOW := Lib.hid (HOWN.out)
            have HXW := Lib.hid (hxs)
            (try clear hc6 hf6); (try clear hn6)
            obtain ⟨B9, k9, c9, hc9, hf9, hn9, _, _⟩ := HOW.out.at_ (upto_length _ _) (wrow_get hki)
            obtain ⟨ab', ao', A10, k10, c10, he10, hb10, hc10, hn10, _⟩ := hv.pl (k := j) (upto_at (by omega))
            first | (injection he10 with he10; injection he10 with he10a he10b; subst he10a he10b) | subst he10
            have hc10w := (HXW.out.cell (p := ⟨_, _, none⟩) hb10).trans hc10
            have HB11 := Lib.hid (occ_len (n := i) (D := D) (d := j) (by omega) hD)
            have HB12 := Lib.hid (occ_len (n := i) (D := D) (d := j + 1) (by omega) hD)
            have HN10 := Lib.hid (fun (w' : World) (h : Ext wr w') => (CanV.nat (hn10.below HXW.out) (by unfold Fit; have := HB11.out; omega)).below h)
            obtain ⟨y, hy⟩ : ∃ y, y = 0 := ⟨_, rfl⟩
            rw [← hy] at hn9
            have HY := Lib.hid (show y = occ i D (j + 1) * (j + 1) from by rw [hy, occ_gt (.inl (by omega)), Nat.zero_mul])
            have HB14 := Lib.hid (len_small (x := j + 1) (by omega))
            have HYL := Lib.hid (show (limbsOf y).length ≤ 40 from by rw [HY.out]; have h3 := limbsOf_length_mul (occ i D (j + 1)) (j + 1); have := HB12.out; have := HB14.out; omega)
            have HN9 := Lib.hid (fun (w' : World) (h : Ext wr w') => (CanV.nat hn9 (by unfold Fit; have := HYL.out; omega)).below h)
            obtain ⟨x, hx'⟩ : ∃ x, x = D - j := ⟨_, rfl⟩
            have hmx : max ((D : Int) - ((j : Int) + 1) + 1) 0 = (x : Int) := by omega
            have hxs1 : x ≤ 60 := by omega
            have HST := Lib.hid (show occ (i + 1) D (j + 1) = y + occ i D j * x from by rw [HY.out, hx']; exact occ_step i D j)
            clear hx' hy
            have HB13 := Lib.hid (len_small (x := x) (by omega))
            have hv1 : IntKind.i64.wrap ((j : Int) + 1 - 1) = (j : Int) := by rw [wrap_in (by omega)]; omega
            have hv1' : IntKind.i64.wrap (j : Int) = (j : Int) := wrap_in (by omega)
            have hv0 : (0 : Int) ≤ (j : Int) := by omega
            have hv2 : IntKind.i64.wrap ((D : Int) - ((j : Int) + 1)) = (D : Int) - ((j : Int) + 1) := wrap_in (by omega)
            have hv3 : IntKind.i64.wrap ((D : Int) - ((j : Int) + 1) + 1) = (D : Int) - ((j : Int) + 1) + 1 := wrap_in (by omega)
            have hv4 : IntKind.u64.wrap (x : Int) = (x : Int) := by rw [IntKind.wrap_u64]; omega
            have hv5 : (0 : Int) < (j : Int) + 1 := by omega
            have hv6 : (j : Int) < (i : Int) + 1 := by omega
            have hv7 : (j : Int) + 1 < (i : Int) + 2 := by omega
            have hv8 : (0 : Int) ≤ (j : Int) + 1 := by omega
            have HS2 := Lib.hid (fun (w' : World) (h : Ext wr w') => (⟨(h.cell (p := ⟨_, _, none⟩) (World.block_lt_of_cell? _ _ hc10w)).trans hc10w, (h.cell (p := ⟨wo.heap.size, j + 1, none⟩) (World.block_lt_of_cell? _ _ hc9)).trans hc9, (h.frozen (p := ⟨wo.heap.size, j + 1, none⟩) (World.block_lt_of_cell? _ _ hc9)).trans hf9⟩ : w'.cell? ⟨ab', ao' + j, none⟩ = some (.slice A10 k10 c10) ∧ w'.cell? ⟨wo.heap.size, j + 1, none⟩ = some (.slice B9 k9 c9) ∧ w'.frozen? ⟨wo.heap.size, j + 1, none⟩ = false))
            have q0 : Ext wr wr := Below.refl _ _
            clear hn9 hn10 hc10 hb10
            go_upto_region 12 with (fail)
            have HS := Lib.hid (fun w' (h : Ext wr w') => HS2.out w' h)
            refine wp_region_G (fun w' => Ext wr w') [21] (by kernel_rfl) ?_
            have gS : Ext wr wr.drew := (Below.refl _ _).drew
            refine wpAnyG_take 0 (v := ?_) rfl (by kernel_rfl) (by kernel_rfl) (by kernel_rfl) (by kernel_rfl) (by rfl) (by kernel_rfl) (fun _ _ _ h => h) (by rfl) (fun w' hw' => ?_) gS ?_
            rotate_left
            focus (go_simp; (try with_reducible rfl); done)
            (try simp only [Act.put, List.setIfInBounds_toArray, List.set_cons_zero, List.set_cons_succ])
            refine wpAnyG_take 1 (v := ?_) rfl (by kernel_rfl) (by kernel_rfl) (by kernel_rfl) (by kernel_rfl) (by rfl) (by kernel_rfl) (fun _ _ _ h => h) (by rfl) (fun w' hw' => ?_) gS ?_
            rotate_left
            focus (go_simp; (try with_reducible rfl); done)
            (try simp only [Act.put, List.setIfInBounds_toArray, List.set_cons_zero, List.set_cons_succ])
            refine wpAnyG_take 2 (v := ?_) rfl (by kernel_rfl) (by kernel_rfl) (by kernel_rfl) (by kernel_rfl) (by rfl) (by kernel_rfl) (fun _ _ _ h => h) (by rfl) (fun w' hw' => ?_) gS ?_
            rotate_left
            focus (go_simp; (try with_reducible rfl); done)
            (try simp only [Act.put, List.setIfInBounds_toArray, List.set_cons_zero, List.set_cons_succ])
            refine wpAnyG_take 3 (v := ?_) rfl (by kernel_rfl) (by kernel_rfl) (by kernel_rfl) (by kernel_rfl) (by rfl) (by kernel_rfl) (fun _ _ _ h => h) (by rfl) (fun w' hw' => ?_) gS ?_
            rotate_left
            focus (go_simp; (try with_reducible rfl); done)
            (try simp only [Act.put, List.setIfInBounds_toArray, List.set_cons_zero, List.set_cons_succ])
            refine wpAnyG_take 4 (v := ?_) rfl (by kernel_rfl) (by kernel_rfl) (by kernel_rfl) (by kernel_rfl) (by rfl) (by kernel_rfl) (fun _ _ _ h => h) (by rfl) (fun w' hw' => ?_) gS ?_
            rotate_left
            focus (go_simp; (try with_reducible rfl); done)
            (try simp only [Act.put, List.setIfInBounds_toArray, List.set_cons_zero, List.set_cons_succ])
            refine wpAnyG_take 5 (v := ?_) rfl (by kernel_rfl) (by kernel_rfl) (by kernel_rfl) (by kernel_rfl) (by rfl) (by kernel_rfl) (fun _ _ _ h => h) (by rfl) (fun w' hw' => ?_) gS ?_
            rotate_left
            focus (have hh := HS.out _ hw'; go_split_ands; go_simp; (try with_reducible rfl); done)
            (try simp only [Act.put, List.setIfInBounds_toArray, List.set_cons_zero, List.set_cons_succ])
            refine wpAnyG_take 6 (v := ?_) rfl (by kernel_rfl) (by kernel_rfl) (by kernel_rfl) (by kernel_rfl) (by rfl) (by kernel_rfl) (fun _ _ _ h => h) (by rfl) (fun w' hw' => ?_) gS ?_
            rotate_left
            focus (go_simp; (try with_reducible rfl); done)
            (try simp only [Act.put, List.setIfInBounds_toArray, List.set_cons_zero, List.set_cons_succ])
            refine wpAnyG_take 7 (v := ?_) rfl (by kernel_rfl) (by kernel_rfl) (by kernel_rfl) (by kernel_rfl) (by rfl) (by kernel_rfl) (fun _ _ _ h => h) (by rfl) (fun w' hw' => ?_) gS ?_
            rotate_left
            focus (go_simp; (try with_reducible rfl); done)
            (try simp only [Act.put, List.setIfInBounds_toArray, List.set_cons_zero, List.set_cons_succ])
            refine wpAnyG_take 8 (v := ?_) rfl (by kernel_rfl) (by kernel_rfl) (by kernel_rfl) (by kernel_rfl) (by rfl) (by kernel_rfl) (fun _ _ _ h => h) (by rfl) (fun w' hw' => ?_) gS ?_
            rotate_left
            focus (go_simp; (try with_reducible rfl); done)
            (try simp only [Act.put, List.setIfInBounds_toArray, List.set_cons_zero, List.set_cons_succ])
            refine wpAnyG_take 9 (v := ?_) rfl (by kernel_rfl) (by kernel_rfl) (by kernel_rfl) (by kernel_rfl) (by rfl) (by kernel_rfl) (fun _ _ _ h => h) (by rfl) (fun w' hw' => ?_) gS ?_
            rotate_left
            focus (go_simp; (try with_reducible rfl); done)
            (try simp only [Act.put, List.setIfInBounds_toArray, List.set_cons_zero, List.set_cons_succ])
            refine wpAnyG_take 10 (v := ?_) rfl (by kernel_rfl) (by kernel_rfl) (by kernel_rfl) (by kernel_rfl) (by rfl) (by kernel_rfl) (fun _ _ _ h => h) (by rfl) (fun w' hw' => ?_) gS ?_
            rotate_left
            focus (have hh := HS.out _ hw'; go_split_ands; go_simp; (try with_reducible rfl); done)
            (try simp only [Act.put, List.setIfInBounds_toArray, List.set_cons_zero, List.set_cons_succ])
            refine wpAnyG_take 11 (v := ?_) rfl (by kernel_rfl) (by kernel_rfl) (by kernel_rfl) (by kernel_rfl) (by rfl) (by kernel_rfl) (fun _ _ _ h => h) (by rfl) (fun w' hw' => ?_) gS ?_
            rotate_left
            focus (go_simp; (try with_reducible rfl); done)
            (try simp only [Act.put, List.setIfInBounds_toArray, List.set_cons_zero, List.set_cons_succ])
            refine wpAnyG_take 12 (v := ?_) rfl (by kernel_rfl) (by kernel_rfl) (by kernel_rfl) (by kernel_rfl) (by rfl) (by kernel_rfl) (fun _ _ _ h => h) (by rfl) (fun w' hw' => ?_) gS ?_
            rotate_left
            focus (go_simp; (try with_reducible rfl); done)
            (try simp only [Act.put, List.setIfInBounds_toArray, List.set_cons_zero, List.set_cons_succ])
            refine wpAnyG_take 13 (v := ?_) rfl (by kernel_rfl) (by kernel_rfl) (by kernel_rfl) (by kernel_rfl) (by rfl) (by kernel_rfl) (fun _ _ _ h => h) (by rfl) (fun w' hw' => ?_) gS ?_
            rotate_left
            focus (go_simp; (try with_reducible rfl); done)
            (try simp only [Act.put, List.setIfInBounds_toArray, List.set_cons_zero, List.set_cons_succ])
            refine wpAnyG_take 14 (v := ?_) rfl (by kernel_rfl) (by kernel_rfl) (by kernel_rfl) (by kernel_rfl) (by rfl) (by kernel_rfl) (fun _ _ _ h => h) (by rfl) (fun w' hw' => ?_) gS ?_
            rotate_left
            focus (go_simp; (try with_reducible rfl); done)
            (try simp only [Act.put, List.setIfInBounds_toArray, List.set_cons_zero, List.set_cons_succ])
            refine wpAnyG_take 15 (v := ?_) rfl (by kernel_rfl) (by kernel_rfl) (by kernel_rfl) (by kernel_rfl) (by rfl) (by kernel_rfl) (fun _ _ _ h => h) (by rfl) (fun w' hw' => ?_) gS ?_
            rotate_left
            focus (go_simp; (try with_reducible rfl); done)
            (try simp only [Act.put, List.setIfInBounds_toArray, List.set_cons_zero, List.set_cons_succ])
            refine wpAnyG_take 16 (v := ?_) rfl (by kernel_rfl) (by kernel_rfl) (by kernel_rfl) (by kernel_rfl) (by rfl) (by kernel_rfl) (fun _ _ _ h => h) (by rfl) (fun w' hw' => ?_) gS ?_
            rotate_left
            focus (go_simp; (try with_reducible rfl); done)
            (try simp only [Act.put, List.setIfInBounds_toArray, List.set_cons_zero, List.set_cons_succ])
            refine wpAnyG_one 17 (by kernel_rfl) rfl (by rfl) (fun K hK => ?_)
            go_simp
            go_at_call 51
            refine (of_n (n := x) (by omega)).mono ?_
            rintro e w17 ⟨A17, k17, c17, rfl, h17, x17, n17⟩
            have gS : Ext wr w17 := Ext.trans gS x17
            have e17 := gS
            (try go_wp2_with fail)
            refine hK.out _ _ (fun _ => gS) ?_
            clear hK K
            (try simp only [Act.put, List.setIfInBounds_toArray, List.set_cons_zero, List.set_cons_succ])
            refine wpAnyG_one 18 (by kernel_rfl) rfl (by rfl) (fun K hK => ?_)
            go_simp
            go_at_call 32
            refine (mul_n (HN10.out _ gS) (CanV.nat h17 (fit_small (by omega))) (by have := HB11.out; have := HB13.out; omega)).mono ?_
            rintro e w18 ⟨A18, k18, c18, rfl, h18, x18, n18⟩
            have gS : Ext wr w18 := Ext.trans gS x18
            have e18 := gS
            (try go_wp2_with fail)
            refine hK.out _ _ (fun _ => gS) ?_
            clear hK K
            (try simp only [Act.put, List.setIfInBounds_toArray, List.set_cons_zero, List.set_cons_succ])
            refine wpAnyG_one 19 (by kernel_rfl) rfl (by rfl) (fun K hK => ?_)
            go_simp
            go_at_call 39
            refine (add_n (HN9.out _ gS) (CanV.nat h18 (by unfold Fit; have h3 := limbsOf_length_mul (occ i D j) x; have := HB11.out; have := HB13.out; omega)) (by have := HYL.out; omega) (by have h3 := limbsOf_length_mul (occ i D j) x; have := HB11.out; have := HB13.out; omega)).mono ?_
            rintro e w19 ⟨A19, k19, c19, rfl, h19, x19, n19⟩
            have gS : Ext wr w19 := Ext.trans gS x19
            have e19 := gS
            obtain ⟨hc10w, hc9, hf9⟩ := HS2.out _ e19
            (try go_wp2_with fail)
            refine hK.out _ _ (fun _ => gS) ?_
            clear hK K
            (try simp only [Act.put, List.setIfInBounds_toArray, List.set_cons_zero, List.set_cons_succ])
            refine wpAnyG_take 20 (v := ?_) rfl (by kernel_rfl) (by kernel_rfl) (by kernel_rfl) (by kernel_rfl) (by rfl) (by kernel_rfl) (fun _ _ _ h => h) (by rfl) (fun w' hw' => ?_) gS ?_
            rotate_left
            focus (go_simp; (try with_reducible rfl); done)
            (try simp only [Act.put, List.setIfInBounds_toArray, List.set_cons_zero, List.set_cons_succ])
            refine wpAnyG_one 21 (by kernel_rfl) rfl (by rfl) (fun K hK => ?_)
            go_simp
            refine hK.out _ _ (fun h => absurd h (by decide)) ?_
            clear hK K
            (try simp only [Act.put, List.setIfInBounds_toArray, List.set_cons_zero, List.set_cons_succ])
            refine wpAnyG_done (by kernel_rfl) ?_ _
            all_goals
              have hs17 := e17.size
              have hs18 := e18.size
              have hsW := HXW.out.size
              have hOW2 := OwnN.write HOW.out (upto_length _ _) hki e19 h19 (n19.mono (by omega)) (Nat.le_trans hw0 hsW)
              have xW2 : Ext wo (w19.setCell ⟨wo.heap.size, j + 1, none⟩ (.slice A19 k19 c19)) := (HXW.out.trans e19).setCell (p := ⟨wo.heap.size, j + 1, none⟩) (Nat.le_refl _) _
              rw [← HST.out] at hOW2
              clear h19 n19 x19 hc10w hc9 hf9
              generalize w19.setCell ⟨wo.heap.size, j + 1, none⟩ (.slice A19 k19 c19) = WC at *
              go_wp2
              go_roundw
              case rel => exact ⟨j + 2, _, by omega, by go_num, by rw [← wrow_next]; first | exact hOW2 | (simp only [List.set_set] at hOW2; exact hOW2), xW2⟩
              case measure => first | (simp [intOf]; done) | (simp [intOf]; omega)
        · obtain rfl : k = i + 2 := by omega
          have hb1 : ¬ ((i : Int) + 2 < (i : Int) + 2) := by omega
          have hN := hown.nats
          rw [wrow_all] at hN
          have hxW := hx.trans hxs
          have hw1' : IntKind.i64.wrap ((i : Int) + 1) = (i : Int) + 1 := wrap_in (by omega)
          clear hown hv hnw
          go_wp2
          go_roundw
          case rel => exact ⟨i + 1, some ⟨wo.heap.size, 0, none⟩, i + 2, by omega, by go_num, rfl, hN, hxW, New.at_ hw0⟩
          case measure => first | (simp [intOf]; done) | (simp [intOf]; omega)
    · obtain rfl : i = n := by omega
      have hu1 : IntKind.u64.wrap (D : Int) = (D : Int) := by rw [IntKind.wrap_u64]; omega
      have HV := Lib.hid (fun (w' : World) (h : Ext wr w') => hv.ext h)
      have HL3 := Lib.hid (all_small hn hD)
      clear hv
      go_wp2_with fail
      refine (nof_e (m := D) (by omega) (by omega)).mono ?_
      rintro e w3 ⟨A3, k3, c3, rfl, h3, y3, n3⟩
      have hN3 := h3.nat (fit_small (by omega))
      clear n3
      go_wp2_with fail
      refine (pow_n (N := i) hN3 (by omega) (by omega) (fun w' h => digits_small h (by omega))).mono ?_
      rintro e w4 ⟨A4, k4, c4, rfl, h4, y4, n4⟩
      clear hN3 h3
      have n4 : New wr.heap.size (.slice A4 k4 c4) := n4.mono y3.size
      have y4 := y3.trans y4
      go_upto_region 17 with (fail)
      have hB4 : (w4.alloc (.cells #[.slice A4 k4 c4] 25)).cell? ⟨w4.heap.size, 0, none⟩ = some (.slice A4 k4 c4) := by simp [go_sem]
      have Y4 : Ext wr (w4.alloc (.cells #[.slice A4 k4 c4] 25)) := ext_alloc y4 _
      have h4 := h4.below (ext_alloc (Below.refl _ _) (.cells #[.slice A4 k4 c4] 25))
      have hsz4 : w4.heap.size < (w4.alloc (.cells #[.slice A4 k4 c4] 25)).heap.size := by simp
      have hlo4 : wr.heap.size ≤ w4.heap.size := y4.size
      generalize w4.alloc (.cells #[.slice A4 k4 c4] 25) = W4 at *
      generalize w4.heap.size = B4 at *
      have HB4 := Lib.hid (fun (w' : World) (h : Ext W4 w') => ((h.cell (p := ⟨B4, 0, none⟩) (World.block_lt_of_cell? _ _ hB4)).trans hB4 : w'.cell? ⟨B4, 0, none⟩ = some (.slice A4 k4 c4)))
      clear hB4 y4
      have HS := Lib.hid (fun w' (h : Ext W4 w') => HB4.out w' h)
      obtain ⟨r0, g0⟩ := HR.out _ (hx.trans Y4)
      refine wp_region_G (fun w' => Ext W4 w') [3] (by kernel_rfl) ?_
      have gS : Ext W4 W4.drew := (Below.refl _ _).drew
      refine wpAnyG_take 0 (v := ?_) rfl (by kernel_rfl) (by kernel_rfl) (by kernel_rfl) (by kernel_rfl) (by rfl) (by kernel_rfl) (fun _ _ _ h => h) (by rfl) (fun w' hw' => ?_) gS ?_
      rotate_left
      focus (go_simp; (try with_reducible rfl); done)
      (try simp only [Act.put, List.setIfInBounds_toArray, List.set_cons_zero, List.set_cons_succ])
      refine wpAnyG_take 1 (v := ?_) rfl (by kernel_rfl) (by kernel_rfl) (by kernel_rfl) (by kernel_rfl) (by rfl) (by kernel_rfl) (fun _ _ _ h => h) (by rfl) (fun w' hw' => ?_) gS ?_
      rotate_left
      focus (have hh := HS.out _ hw'; go_split_ands; go_simp; (try with_reducible rfl); done)
      (try simp only [Act.put, List.setIfInBounds_toArray, List.set_cons_zero, List.set_cons_succ])
      refine wpAnyG_take 2 (v := ?_) rfl (by kernel_rfl) (by kernel_rfl) (by kernel_rfl) (by kernel_rfl) (by rfl) (by kernel_rfl) (fun _ _ _ h => h) (by rfl) (fun w' hw' => ?_) gS ?_
      rotate_left
      focus (go_simp; (try with_reducible rfl); done)
      (try simp only [Act.put, List.setIfInBounds_toArray, List.set_cons_zero, List.set_cons_succ])
      refine wpAnyG_one 3 (by kernel_rfl) rfl (by rfl) (fun K hK => ?_)
      go_simp
      refine hK.out _ _ (fun h => absurd h (by decide)) ?_
      clear hK K
      (try simp only [Act.put, List.setIfInBounds_toArray, List.set_cons_zero, List.set_cons_succ])
      refine wpAnyG_done (by kernel_rfl) ?_ _
      go_wp2
      have q0 := World.cell?_setCell_same W4 ⟨w.heap.size, 0, none⟩ (.slice A4 k4 c4) r0
      have hsx := hx.size
      have hEW := hx.trans Y4
      refine bodyPost_ret (v := .tuple #[.slice A (i + 1) c, .agg #[.slice A4 k4 c4]]) (by simp [results, Tryd.results73, go_sem, q0]) rfl ?_
      exact GivesW.box (b := w.heap.size) (by rw [upto_length]) (HE.out.trans hEW) (HV.out _ Y4) h4 (hnw.mono (by omega)) (n4.mono (by omega)) ⟨Nat.le_refl _, by omega⟩

end Go.Proofs.YtjdpkmngboiemaaDoor
