/- metal: fixed values. -/
import Derived.Test.YtmfigiifflljpaaMetN
import Derived.Test.YtmfigiifflljpaaMetK
import Derived.Test.YtmfigiifflljpaaMetD
import Derived.Test.YtmfigiifflljpaaRFrac0
import Derived.Test.YtmfigiifflljpaaFrlB
set_option linter.unusedVariables false
set_option linter.unusedSimpArgs false
set_option maxRecDepth 100000
namespace Go.Proofs.Ytmfigiifflljpaa
open Go.RowKit Num

def zQ (zs : List Int) : Nat → Rat := fun k => ((zs.getD k 0 : Int) : Rat)
def m2 (f g : Nat → Rat) : Mx := fun i => if i = 0 then f else g
def m1 (f : Nat → Rat) : Mx := fun _ => f
def aw : Mx := m2 (zQ [1, 2]) (zQ [3, 4])
def shQ : Nat → Rat := fun i => if i = 0 then ((1 : Int) : Rat) / ((3 : Int) : Rat) else ((2 : Int) : Rat) / ((3 : Int) : Rat)
theorem aw_rk : rk aw 2 2 = 2 := by decide +kernel
theorem aw_det : det 2 aw = ((-2 : Int) : Rat) / ((1 : Int) : Rat) := by decide +kernel
theorem aw_solN : solN (rrefs (wide aw (zQ [5, 11]) 2) 2 3) 2 = 2 := by decide +kernel
theorem aw_solE : solE (rrefs (wide aw (zQ [5, 11]) 2) 2 3) 2 = 0 := by decide +kernel
theorem aw_sol : ∀ k, k < 2 → (rrefs (wide aw (zQ [5, 11]) 2) 2 3).m k 2 = zQ [1, 2] k := by decide +kernel
theorem aw_times : ∀ k, k < 2 → dotR (aw k) (zQ [1, 2]) 2 = zQ [5, 11] k := by decide +kernel
theorem aw_fr : frL (rrefs aw 1 2) 2 = [1] := by decide +kernel
theorem aw_ker : ∀ j, j < 2 → kerV (rrefs aw 1 2) 1 j = zQ [-2, 1] j := by decide +kernel
theorem aw_sev : solE (rrefs (wide aw (zQ [5]) 2) 1 3) 2 = 9 := by decide +kernel
theorem aw_none : solE (rrefs (wide (m2 (zQ [1]) (zQ [1])) (zQ [1, 2]) 1) 2 2) 1 = 7 := by decide +kernel
theorem aw_red : ∀ i, i < 2 → ∀ j, j < 2 → (rrefs aw 2 2).m i j = m2 (zQ [1, 0]) (zQ [0, 1]) i j := by decide +kernel
theorem sh_sum : sm shQ 2 = 1 := by decide +kernel
theorem sh_neg : ∀ i, i < 2 → ¬ shQ i < 0 := by decide +kernel
theorem aw_mix : ∀ c, c < 2 → dotR (fun i => m2 (zQ [90, 10]) (zQ [60, 40]) i c) shQ 2 = zQ [70, 30] c := by decide +kernel
theorem sh_mixE : mixE shQ 2 = 0 := by
  unfold mixE
  rw [if_neg (fun ⟨i, h1, h2⟩ => sh_neg i h1 h2), if_pos sh_sum]
theorem sh_mixN {C : Nat} : mixN shQ 2 C = C := by
  unfold mixN
  rw [if_neg (fun h => h.elim (fun ⟨i, h1, h2⟩ => sh_neg i h1 h2) (fun h => h sh_sum))]

/-- Lists that the call itself writes down. -/
theorem ints1 (w : World) (x : Int) : IntsV (w.alloc (.cells #[.int .i64 x] 3)) (.slice (some ⟨w.heap.size, 0, none⟩) 1 1) [x] :=
  IntsV.of_own (base := w.heap.size) (e := 3) (n := 1) (zs := [x]) (World.ownsRow_lit (base := w.heap.size) (size := 1) w #[.int .i64 x] 1 (Nat.le_refl _) (by unfold maxLen; omega) rfl)
theorem ints2 (w : World) (x y : Int) : IntsV (w.alloc (.cells #[.int .i64 x, .int .i64 y] 3)) (.slice (some ⟨w.heap.size, 0, none⟩) 2 2) [x, y] :=
  IntsV.of_own (base := w.heap.size) (e := 3) (n := 2) (zs := [x, y]) (World.ownsRow_lit (base := w.heap.size) (size := 1) w #[.int .i64 x, .int .i64 y] 2 (Nat.le_refl _) (by unfold maxLen; omega) rfl)
theorem emat1 {w : World} {A : Option Addr} {c k : Nat} {f : Nat → Rat} (h : EFs true w (.slice A c k) c f) : EMat true (w.alloc (.cells #[.slice A c k] 39)) (.slice (some ⟨w.heap.size, 0, none⟩) 1 1) 1 c (m1 f) :=
  ⟨_, 1, [.slice A c k], rfl, Nat.le_refl _, by omega, Reads.of_own (base := w.heap.size) (e := 39) (World.ownsRow_lit (base := w.heap.size) (size := 1) w #[.slice A c k] 1 (Nat.le_refl _) (by unfold maxLen; omega) rfl), fun i u hu => by
    match i, hu with
    | 0, hu => cases hu; exact h.below (ext_alloc (Below.refl _ _) _)⟩
theorem emat2 {w : World} {A B : Option Addr} {c k l : Nat} {f g : Nat → Rat} (h : EFs true w (.slice A c k) c f) (h' : EFs true w (.slice B c l) c g) : EMat true (w.alloc (.cells #[.slice A c k, .slice B c l] 39)) (.slice (some ⟨w.heap.size, 0, none⟩) 2 2) 2 c (m2 f g) :=
  ⟨_, 2, [.slice A c k, .slice B c l], rfl, Nat.le_refl _, by omega, Reads.of_own (base := w.heap.size) (e := 39) (World.ownsRow_lit (base := w.heap.size) (size := 1) w #[.slice A c k, .slice B c l] 2 (Nat.le_refl _) (by unfold maxLen; omega) rfl), fun i u hu => by
    match i, hu with
    | 0, hu => cases hu; exact h.below (ext_alloc (Below.refl _ _) _)
    | 1, hu => cases hu; exact h'.below (ext_alloc (Below.refl _ _) _)⟩
theorem efs2 {w : World} {b b' : Bool} {s t s' t' : Value} {p q : Rat} (h : FracV w b s t p) (h' : FracV w b' s' t' q) : EFs true (w.alloc (.cells #[.bool b, s, t, .bool b', s', t'] 34)) (.slice (some ⟨w.heap.size, 0, none⟩) 2 2) 2 (fun i => if i = 0 then p else q) :=
  ⟨_, 2, [⟨b, s, t⟩, ⟨b', s', t'⟩], rfl, Nat.le_refl _, by omega, rfl, Reads.of_own (base := w.heap.size) (e := 34) (World.ownsRow_lit (base := w.heap.size) (size := 3) w #[.bool b, s, t, .bool b', s', t'] 2 (Nat.le_refl _) (by unfold maxLen; omega) rfl), fun i u hu => by
    match i, hu with
    | 0, hu => cases hu; exact .inl (h.below (ext_alloc (Below.refl _ _) _))
    | 1, hu => cases hu; exact .inl (h'.below (ext_alloc (Below.refl _ _) _))⟩
theorem EMat.take {K : Bool} {w : World} {A : Option Addr} {n m cap c : Nat} {M : Mx} (h : EMat K w (.slice A n cap) n c M) (hm : m ≤ n) : EMat K w (.slice A m cap) m c M := by
  obtain ⟨A', cap', us, e, h2, h3, h4, h5⟩ := h
  injection e with e1 e2 e3
  subst e1 e3
  refine ⟨A, cap, us.take m, rfl, Nat.le_trans hm h2, h3, ⟨by rw [List.length_take, h4.1]; omega, fun h0 => ?_⟩, fun k u hu => ?_⟩
  · obtain ⟨ad, e, hb, hc⟩ := h4.2 (by omega)
    refine ⟨ad, e, hb, fun j u hu => hc j u ?_⟩
    rw [List.getElem?_take] at hu
    split at hu
    · exact hu
    · cases hu
  · rw [List.getElem?_take] at hu
    split at hu
    · exact h5 k u hu
    · cases hu

/-- A list of fractions. -/
def GivesFs (w : World) (n : Nat) (f : Nat → Rat) (e : Ending) (w' : World) : Prop :=
  ∃ A c, e = .returned (.slice A n c) ∧ EFs true w' (.slice A n c) n f ∧ Ext w w'
theorem over_one {z : Int} : (z : Rat) / ((1 : Int) : Rat) = (z : Rat) := by
  rw [show ((1 : Int) : Rat) = 1 from rfl, Rat.div_def]
  grind
set_option maxHeartbeats 4000000 in
theorem of_l {v : Value} {zs : List Int} {w : World} (hv : IntsV w v zs) (hl : zs.length ≤ 100) (hb : ∀ z ∈ zs, -1000 ≤ z ∧ z ≤ 1000) :
    Calls Try.prog 40 #[v] w (GivesFs w zs.length (zQ zs)) := by
  have HV := Lib.hid (fun (w' : World) (h : Ext w w') => hv.below h)
  have HB := Lib.hid (fun k (hk : k < zs.length) => hb _ (show zs.getD k 0 ∈ zs from mem_getD.2 ⟨k, hk, rfl⟩))
  obtain ⟨A, c, rfl, h1, h2, _⟩ := hv
  obtain ⟨i0, hi, hz0, hz1, hz2⟩ := info_parts info_frac
  obtain ⟨n, hn⟩ : ∃ n, n = zs.length := ⟨_, rfl⟩
  have HN := Lib.hid hn
  rw [← hn] at HV HB hl h1 ⊢
  clear hn hb
  go_enter Try.func40, Try.ntmps40
  go_wp2
  go_loopw [3, 4] (fun rv iv wr => ∃ (k : Nat) (ts : List Fc), k ≤ n ∧ iv = .int .i64 k ∧ OwnF 34 w.heap.size w.heap.size wr rv ts (uptoQ (zQ zs) k) ∧ Ext w wr) (fun _ iv _ => n - (intOf iv).toNat)
  case atStart => exact ⟨0, [], Nat.zero_le _, rfl, OwnF.nil_ _ _ _ _, Below.refl _ _⟩
  case round =>
    obtain ⟨k, ts, hk, rfl, hown, hy⟩ := hrel
    by_cases hkn : k < n
    · obtain ⟨b, o, rfl, hbl, hcell⟩ := intsM_at (HV.out _ hy) (k := k) (by rw [← HN.out]; exact hkn)
      have hzb := HB.out k hkn
      obtain ⟨z, hz⟩ : ∃ z, z = zs.getD k 0 := ⟨_, rfl⟩
      have HZ := Lib.hid (show zQ zs k = (z : Rat) / ((1 : Int) : Rat) from by rw [over_one, hz]; rfl)
      rw [← hz] at hcell hzb
      have HU := Lib.hid (uptoQ_length (zQ zs) k)
      have HOWN := Lib.hid hown
      have hi1 : (0 : Int) ≤ (k : Int) := by omega
      have hi2 : (k : Int) < (n : Int) := by omega
      clear hown hz
      go_wp2_with (first
        | (go_at_call 41; (with_reducible refine (rfof_n (n := z) (d := 1) (by omega) (by omega)).mono ?_); rintro e w7 ⟨b7, A7, k7, c7, B7, l7, d7, rfl, h7, x7, n7, m7⟩; rw [← HZ.out] at h7)
        | (at_builtin; refine wpList_append_mine _ (by rfl) (.tmp 11) (.tmp 17) 39 (by rfl) w.heap.size 34 i0 (.agg #[.bool false, .slice none 0 0, .slice none 0 0]) 3 56 Try.underlying39 hi hz0 hz1 hz2 rfl (by omega) _ _ _ (by rfl) (HOWN.out.ext (ext_alloc x7 _)).1.1 ⟨w7.heap.size, 0, none⟩ 1 1 [.bool b7, .slice A7 k7 c7, .slice B7 l7 d7] (by rfl) rfl (cell_three w7 _ _ _ _) (by simp [Value.oneCell']) (by rw [HU.out]; unfold maxLen; omega) (by rw [HU.out]; omega) (by have := hy.size; have := x7.size; simp; omega) ?_; intro v8 w8 ho8 hg8 hw8))
      have hO8 : OwnF 34 w.heap.size w.heap.size w8 v8 (ts ++ [⟨b7, .slice A7 k7 c7, .slice B7 l7 d7⟩]) (uptoQ (zQ zs) (k + 1)) := by
        rw [uptoQ_succ]; exact OwnF.grow (t := ⟨b7, .slice A7 k7 c7, .slice B7 l7 d7⟩) HOWN.out (ext_alloc x7 _) (h7.below (ext_alloc (Below.refl _ _) _)) (n7.mono (by simp)) (m7.mono (by simp)) hy.size ho8 hg8 hw8
      have hx8 : Ext w w8 := OwnF.grow_ext HOWN.out hy (ext_alloc x7 _) hg8
      clear ho8 hg8 hw8 HOWN h7 x7 n7 m7
      go_roundw
      case rel => exact ⟨k + 1, _, by omega, by go_num, hO8, hx8⟩
      case measure => simp [intOf]; omega
    · obtain rfl : n = k := by omega
      have hkk : ¬ ((n : Int) < (n : Int)) := by omega
      obtain ⟨A9, c9, rfl, _, _⟩ := hown.fracs.form
      rw [uptoQ_length] at hown ⊢
      have h9 := EFs.of_fracs (hown.fracs)
      clear hown
      go_wp2
      go_ret
      exact ⟨_, _, rfl, h9, hy⟩

theorem uptoQ_congr {f g : Nat → Rat} : ∀ {n : Nat}, (∀ k, k < n → f k = g k) → uptoQ f n = uptoQ g n
  | 0, _ => rfl
  | n + 1, h => by rw [uptoQ_succ, uptoQ_succ, uptoQ_congr (n := n) fun k hk => h k (by omega), h n (by omega)]
theorem efracs_same {x y : Value} {n : Nat} {f g : Nat → Rat} {w : World} (hx : EFs true w x n f) (hy : EFs true w y n g) (h : ∀ k, k < n → f k = g k) :
    Calls Try.prog 26 #[x, y] w (fun e w' => e = .returned (.bool true) ∧ Ext w w') := by
  have h1 := hx.fracs
  rw [uptoQ_congr h] at h1
  exact bfracs_same h1 hy.fracs
set_option maxHeartbeats 4000000 in
theorem ematrix_same {x y : Value} {n c : Nat} {M M' : Mx} {w : World} (hx : EMat true w x n c M) (hy : EMat true w y n c M') (h : ∀ i, i < n → ∀ j, j < c → M i j = M' i j) (hn : n ≤ 100) :
    Calls Try.prog 19 #[x, y] w (fun e w' => e = .returned (.bool true) ∧ Ext w w') := by
  have HX := Lib.hid (fun (w' : World) (h : Ext w w') => hx.below h)
  have HY := Lib.hid (fun (w' : World) (h : Ext w w') => hy.below h)
  have HE := Lib.hid h
  obtain ⟨A, ca, rfl, a1, a2⟩ := hx.form
  obtain ⟨A', cb, rfl, b1, b2⟩ := hy.form
  have hnn : ((n : Int) != (n : Int)) = false := by simp
  clear hx hy h
  go_enter Try.func19, Try.ntmps19
  go_wp2
  go_loopw [5] (fun iv wr => ∃ k : Nat, k ≤ n ∧ iv = .int .i64 k ∧ Ext w wr) (fun iv _ => n - (intOf iv).toNat)
  case atStart => exact ⟨0, Nat.zero_le _, rfl, Below.refl _ _⟩
  case round =>
    obtain ⟨k, hk, rfl, hy⟩ := hrel
    by_cases hkn : k < n
    · obtain ⟨b, o, A1, c1, rfl, hb, hc, hr⟩ := (HX.out _ hy).at_ hkn
      obtain ⟨b', o', A2, c2, rfl, hb', hc', hr'⟩ := (HY.out _ hy).at_ hkn
      have HF := Lib.hid (fun (w' : World) (h : Ext wr w') => efracs_same (hr.below h) (hr'.below h) (HE.out k hkn))
      have hi1 : (0 : Int) ≤ (k : Int) := by omega
      have hi2 : (k : Int) < (n : Int) := by omega
      have HS := Lib.hid (fun (w' : World) (h : Ext wr w') => (⟨(h.cell (p := ⟨b, o + k, none⟩) hb).trans hc, (h.cell (p := ⟨b', o' + k, none⟩) hb').trans hc'⟩ : w'.cell? ⟨b, o + k, none⟩ = some (.slice A1 c c1) ∧ w'.cell? ⟨b', o' + k, none⟩ = some (.slice A2 c c2)))
      clear hr hr' hc hc'
      go_upto_region 6 with (fail)
      go_cut [26] (fun bv wx => bv = .bool false ∧ Ext wr wx)
      case first =>
        refine wp_region_G (fun w' => Ext wr w') [9] (by kernel_rfl) ?_
        have gS : Ext wr wr.drew := (Below.refl _ _).drew
        refine wpAnyG_take 0 (v := ?_) rfl (by kernel_rfl) (by kernel_rfl) (by kernel_rfl) (by kernel_rfl) (by rfl) (by kernel_rfl) (fun _ _ _ h => h) (by rfl) (fun w' hw' => ?_) gS ?_
        rotate_left
        focus (go_simp; (try with_reducible rfl); done)
        (try simp only [Act.put, List.getElem_toArray, List.getElem_cons_succ, List.getElem_cons_zero, List.setIfInBounds_toArray, List.set_cons_zero, List.set_cons_succ])
        refine wpAnyG_take 1 (v := ?_) rfl (by kernel_rfl) (by kernel_rfl) (by kernel_rfl) (by kernel_rfl) (by rfl) (by kernel_rfl) (fun _ _ _ h => h) (by rfl) (fun w' hw' => ?_) gS ?_
        rotate_left
        focus (go_simp; (try with_reducible rfl); done)
        (try simp only [Act.put, List.getElem_toArray, List.getElem_cons_succ, List.getElem_cons_zero, List.setIfInBounds_toArray, List.set_cons_zero, List.set_cons_succ])
        refine wpAnyG_take 2 (v := ?_) rfl (by kernel_rfl) (by kernel_rfl) (by kernel_rfl) (by kernel_rfl) (by rfl) (by kernel_rfl) (fun _ _ _ h => h) (by rfl) (fun w' hw' => ?_) gS ?_
        rotate_left
        focus (go_simp; (try with_reducible rfl); done)
        (try simp only [Act.put, List.getElem_toArray, List.getElem_cons_succ, List.getElem_cons_zero, List.setIfInBounds_toArray, List.set_cons_zero, List.set_cons_succ])
        refine wpAnyG_take 3 (v := ?_) rfl (by kernel_rfl) (by kernel_rfl) (by kernel_rfl) (by kernel_rfl) (by rfl) (by kernel_rfl) (fun _ _ _ h => h) (by rfl) (fun w' hw' => ?_) gS ?_
        rotate_left
        focus (have hh := HS.out _ hw'; go_split_ands; go_simp; (try with_reducible rfl); done)
        (try simp only [Act.put, List.getElem_toArray, List.getElem_cons_succ, List.getElem_cons_zero, List.setIfInBounds_toArray, List.set_cons_zero, List.set_cons_succ])
        refine wpAnyG_take 4 (v := ?_) rfl (by kernel_rfl) (by kernel_rfl) (by kernel_rfl) (by kernel_rfl) (by rfl) (by kernel_rfl) (fun _ _ _ h => h) (by rfl) (fun w' hw' => ?_) gS ?_
        rotate_left
        focus (go_simp; (try with_reducible rfl); done)
        (try simp only [Act.put, List.getElem_toArray, List.getElem_cons_succ, List.getElem_cons_zero, List.setIfInBounds_toArray, List.set_cons_zero, List.set_cons_succ])
        refine wpAnyG_take 5 (v := ?_) rfl (by kernel_rfl) (by kernel_rfl) (by kernel_rfl) (by kernel_rfl) (by rfl) (by kernel_rfl) (fun _ _ _ h => h) (by rfl) (fun w' hw' => ?_) gS ?_
        rotate_left
        focus (go_simp; (try with_reducible rfl); done)
        (try simp only [Act.put, List.getElem_toArray, List.getElem_cons_succ, List.getElem_cons_zero, List.setIfInBounds_toArray, List.set_cons_zero, List.set_cons_succ])
        refine wpAnyG_take 6 (v := ?_) rfl (by kernel_rfl) (by kernel_rfl) (by kernel_rfl) (by kernel_rfl) (by rfl) (by kernel_rfl) (fun _ _ _ h => h) (by rfl) (fun w' hw' => ?_) gS ?_
        rotate_left
        focus (go_simp; (try with_reducible rfl); done)
        (try simp only [Act.put, List.getElem_toArray, List.getElem_cons_succ, List.getElem_cons_zero, List.setIfInBounds_toArray, List.set_cons_zero, List.set_cons_succ])
        refine wpAnyG_take 7 (v := ?_) rfl (by kernel_rfl) (by kernel_rfl) (by kernel_rfl) (by kernel_rfl) (by rfl) (by kernel_rfl) (fun _ _ _ h => h) (by rfl) (fun w' hw' => ?_) gS ?_
        rotate_left
        focus (have hh := HS.out _ hw'; go_split_ands; go_simp; (try with_reducible rfl); done)
        (try simp only [Act.put, List.getElem_toArray, List.getElem_cons_succ, List.getElem_cons_zero, List.setIfInBounds_toArray, List.set_cons_zero, List.set_cons_succ])
        refine wpAnyG_one 8 (by kernel_rfl) rfl (by rfl) (fun K hK => ?_)
        go_simp
        go_at_call 26
        refine (HF.out _ gS).mono ?_
        rintro _ s7 ⟨rfl, x7⟩
        have gS : Ext wr s7 := Ext.trans gS x7
        have gR := gS
        (try go_wp2_with fail)
        refine hK.out _ _ (fun _ => gS) ?_
        clear hK K
        (try simp only [Act.put, List.getElem_toArray, List.getElem_cons_succ, List.getElem_cons_zero, List.setIfInBounds_toArray, List.set_cons_zero, List.set_cons_succ])
        refine wpAnyG_one 9 (by kernel_rfl) rfl (by rfl) (fun K hK => ?_)
        (try simp only [List.getElem_toArray, List.getElem_cons_succ, List.getElem_cons_zero])
        go_simp
        refine hK.out _ _ (fun h => absurd h (by decide)) ?_
        clear hK K
        (try simp only [Act.put, List.getElem_toArray, List.getElem_cons_succ, List.getElem_cons_zero, List.setIfInBounds_toArray, List.set_cons_zero, List.set_cons_succ])
        refine wpAnyG_done (by kernel_rfl) ?_ _
        go_wp2
        go_meet
        exact ⟨rfl, gR⟩
      case rest =>
        obtain ⟨rfl, hxx⟩ := hcut
        go_wp2
        go_roundw
        case rel => exact ⟨k + 1, by omega, by go_num, hy.trans hxx⟩
        case measure => simp [intOf]; omega
    · obtain rfl : n = k := by omega
      have hkk : ¬ ((n : Int) < (n : Int)) := by omega
      go_wp2
      go_ret
      exact ⟨rfl, hy⟩

end Go.Proofs.Ytmfigiifflljpaa
