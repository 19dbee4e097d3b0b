/- short, slices.Clone. -/
import Derived.Test.YtkjcbfaimonaoaaDoorTimes
set_option linter.unusedVariables false
set_option linter.unusedSimpArgs false
set_option maxRecDepth 100000
namespace Go.Proofs.YtkjcbfaimonaoaaDoor
open Go.RowKit Num

/-- What 'short' has done where k limbs are still to come. -/
structure ShortAt (xs : List Nat) (d k : Nat) (os : List Nat) (r : Nat) : Prop where
  len : os.length = xs.length
  digs : Digs os
  small : r < d
  eq : val (os.drop k) * d + r = val (xs.drop k)

theorem ShortAt.start (xs : List Nat) {d : Nat} (hd : 0 < d) : ShortAt xs d xs.length (List.replicate xs.length 0) 0 :=
  ⟨by simp, fun x hx => by simp at hx; omega, hd, by simp [val]⟩

theorem ShortAt.digit {xs os : List Nat} {d k r : Nat} (h : ShortAt xs d (k + 1) os r) (hx : Digs xs) : (r * 1000000000 + xs.getD k 0) / d < 1000000000 := by
  have h1 := hx.getD k
  have h2 := h.small
  rw [Nat.div_lt_iff_lt_mul (by omega)]
  have : (r + 1) * 1000000000 ≤ d * 1000000000 := Nat.mul_le_mul_right _ (by omega)
  omega

theorem ShortAt.step {xs os : List Nat} {d k r : Nat} (h : ShortAt xs d (k + 1) os r) (hx : Digs xs) (hk : k < xs.length) :
    ShortAt xs d k (os.set k ((r * 1000000000 + xs.getD k 0) / d)) ((r * 1000000000 + xs.getD k 0) % d) := by
  have hq := h.digit hx
  obtain ⟨h1, h2, h3, h4⟩ := h
  refine ⟨by simp [h1], h2.set _ hq, Nat.mod_lt _ (by omega), ?_⟩
  have e1 : (os.set k ((r * 1000000000 + xs.getD k 0) / d)).drop k = ((r * 1000000000 + xs.getD k 0) / d) :: os.drop (k + 1) := by
    rw [List.drop_eq_getElem_cons (by simp; omega), List.drop_set_of_lt (by omega)]
    simp
  have e2 : xs.drop k = xs.getD k 0 :: xs.drop (k + 1) := by
    rw [List.drop_eq_getElem_cons hk]; simp [List.getD, hk]
  rw [e1, e2, val, val, ← h4]
  generalize xs.getD k 0 = x at *
  have := Nat.div_add_mod (r * 1000000000 + x) d
  generalize (r * 1000000000 + x) / d = q at *
  generalize (r * 1000000000 + x) % d = s at *
  rw [Nat.add_mul, Nat.mul_add, Nat.mul_assoc, Nat.mul_comm q d]
  omega

theorem ShortAt.done {xs os : List Nat} {d r : Nat} (h : ShortAt xs d 0 os r) : val os = val xs / d ∧ r = val xs % d := by
  obtain ⟨h1, h2, h3, h4⟩ := h
  simp only [List.drop_zero] at h4
  rw [← h4, Nat.mul_comm]
  constructor
  · rw [Nat.mul_add_div (by omega), Nat.div_eq_of_lt h3]; omega
  · rw [Nat.mul_add_mod, Nat.mod_eq_of_lt h3]

set_option maxHeartbeats 2000000 in
theorem short_core {A : Option Addr} {cap : Nat} {xs : List Nat} {d : Nat} {w : World} (h2 : xs.length ≤ cap) (h3 : cap ≤ 9223372036854775807) (h4 : Reads w 1 A xs.length (u32s xs))
    (hx : Digs xs) (hd0 : 0 < d) (hd1 : d < 1000000000) (hbig : xs.length ≤ 8796093022208) :
    Calls Tryd.prog 105 #[.slice A xs.length cap, .int .u32 d] w (fun e w' => ∃ v, e = .returned (.tuple #[v, .int .u32 (val xs % d : Nat)]) ∧ CanV w' v (val xs / d) ∧ Ext w w' ∧ New w.heap.size v) := by
  obtain ⟨i0, hi, hz0, hz1, hz2⟩ := info_parts info_u32
  go_enter Tryd.func105, Tryd.ntmps105
  go_wp2_with (first | (at_make; refine wpList_make_full _ rfl _ _ 28 rfl w.heap.size 70 i0 (.int .u32 0) 1 Tryd.underlying28 hi hz0 hz1 _ _ _ _ (xs.length) rfl rfl (by omega) (by omega) ?b1 ?b2 ?b3 ?_) | go_in)
  case b1 => rw [hz2]; omega
  case b2 => unfold maxLen; omega
  case b3 => exact Nat.le_refl _
  intro w1 hown hgrow
  rw [u32s_replicate] at hown
  have hb1 : Ext w w1 := (Below.refl _ _).grown hgrow (Nat.le_refl _) (by simp)
  clear hgrow
  go_wp2
  go_loopw [7, 8] (fun rv iv wr => ∃ (k r : Nat) (os : List Nat), k ≤ xs.length ∧ iv = .int .i64 ((k : Int) - 1) ∧ rv = .int .u64 r ∧
      wr.ownsRow w.heap.size 70 1 (.slice (some ⟨w.heap.size, 0, none⟩) xs.length xs.length) xs.length (u32s os) ∧ Ext w wr ∧ ShortAt xs d k os r)
    (fun _ iv _ => (intOf iv + 1).toNat)
  case atStart => exact ⟨xs.length, 0, _, Nat.le_refl _, rfl, rfl, hown, hb1, ShortAt.start xs hd0⟩
  case round =>
    obtain ⟨k, r, os, hk, rfl, rfl, hown1, hbr, hat⟩ := hrel
    cases k with
    | succ k =>
      have hxk := hx.getD k
      have hdg := hat.digit hx
      have hsm := hat.small
      have hol := Lib.hid hat.len
      have hst := Lib.hid (hat.step hx (by omega))
      obtain ⟨ad, u, rfl, hb, hu, hcl⟩ := (h4.below hbr).at_ (k := k) (by omega)
      have hu2 : u = .int .u32 (xs.getD k 0 : Nat) := by simpa [u32s, List.getD, show k < xs.length by omega] using hu.symm
      subst hu2
      clear hu hat
      have hcq : wr.cell? ⟨w.heap.size, k, none⟩ = some (.int .u32 (os.getD k 0 : Nat)) := by rw [hown1.cellAt k (by omega), u32s_get os _ (by rw [hol.out]; omega)]
      have hfq : wr.frozen? ⟨w.heap.size, k, none⟩ = false := hown1.frozenAt _
      generalize xs.getD k 0 = x at *
      generalize os.getD k 0 = o at *
      have hi0 : 0 ≤ ((r : Int) * 1000000000 + x) / d := Int.ediv_nonneg (by omega) (by omega)
      have hi1 : ((r : Int) * 1000000000 + x) / d < 1000000000 := by have := Int.ofNat_lt.2 hdg; simpa using this
      have hi2 : 0 ≤ ((r : Int) * 1000000000 + x) % d := Int.emod_nonneg _ (by omega)
      have hi3 : ((r : Int) * 1000000000 + x) % d < d := Int.emod_lt_of_pos _ (by omega)
      clear hdg
      go_wp2
      go_roundw
      case rel =>
        have hs := (hown1.stored k (.int .u32 (((r : Int) * 1000000000 + x) / d))).1
        have e : (((r : Int) * 1000000000 + x) / d) = (((r * 1000000000 + x) / d : Nat) : Int) := by simp
        rw [e, u32s_set] at hs
        exact ⟨k, _, _, by omega, by go_num, by go_num, by rw [e]; exact hs, hbr.setCell (Nat.le_refl _) _, hst.out⟩
      case measure => simp [intOf]; try omega
    | zero =>
      have hdone := Lib.hid hat.done
      have hsm := hat.small
      go_wp2_with fail
      refine (trim_u (U32s.of_own hown1 (Nat.le_refl _) (by omega)) (Below.refl _ _) hat.digs).mono ?_
      rintro e w' ⟨v, rfl, hv, rfl, hob⟩
      rw [hdone.out.1] at hv
      go_wp2
      go_ret2
      exact ⟨_, by rw [← hdone.out.2]; rfl, hv, hbr, (New.at_ (Nat.le_refl _)).same hob⟩

theorem short_any {u : Value} {a d : Nat} {w : World} (hu : CanV w u a) (hd0 : 0 < d) (hd1 : d < 1000000000) (hl : (limbsOf a).length ≤ 8796093022208) :
    Calls Tryd.prog 105 #[u, .int .u32 d] w (fun e w' => ∃ v, e = .returned (.tuple #[v, .int .u32 (a % d : Nat)]) ∧ CanV w' v (a / d) ∧ Ext w w' ∧ New w.heap.size v) := by
  obtain ⟨A, cap, rfl, h2, h3, h4⟩ := hu
  have := short_core h2 h3 h4 (limbsOf_digs a) hd0 hd1 hl
  rwa [val_limbsOf] at this

set_option maxHeartbeats 1000000 in
theorem clone_any {v : Value} {xs : List Nat} {w : World} (hv : U32s w v xs) (hl : xs.length ≤ 35184372088832) :
    Calls Tryd.prog 106 #[v] w (GivesS w fun w' r => U32s w' r xs) := by
  obtain ⟨A, cap, rfl, h2, h3, h4⟩ := hv
  obtain ⟨i0, hi, hz0, hz1, hz2⟩ := info_parts info_u32
  have hnil := fun (W : World) => Lib.run_eql_slice_nil (P := Tryd.prog) W 28 70 A xs.length cap 0 0 Tryd.underlying28
  cases A with
  | none =>
    have h0 : xs.length = 0 := by
      rcases Nat.eq_zero_or_pos xs.length with h | h
      · exact h
      · obtain ⟨ad, e, _⟩ := h4.2 h
        cases e
    have : xs = [] := List.eq_nil_of_length_eq_zero h0
    subst this
    clear h0 h4 h2
    simp only [Option.isNone_none, List.length_nil] at hnil
    simp only [List.length_nil]
    go_enter Tryd.func106, Tryd.ntmps106
    go_wp2
    go_ret
    exact ⟨_, rfl, U32s.nil_ _, Below.refl _ _, New.nil_ _⟩
  | some ad =>
    simp only [Option.isNone_some] at hnil
    have hown0 : (w.alloc (.cells #[] 70)).ownsRow w.heap.size 70 1 (.slice (some ⟨w.heap.size, 0, none⟩) 0 0) 0 [] :=
      World.ownsRow_lit (base := w.heap.size) w #[] 0 (Nat.le_refl _) (by unfold maxLen; omega) rfl
    have hcells : ∀ j u, (u32s xs)[j]? = some u → w.cell? (ad.add j) = some u ∧ ad.block < w.heap.size := by
      intro j u hu
      have : j < xs.length := by have := (List.getElem?_eq_some_iff.1 hu).1; simpa [u32s] using this
      obtain ⟨ad', e, hb, hc⟩ := h4.2 (by omega)
      injection e with e
      subst e
      exact ⟨hc j u hu, hb⟩
    have hcells' : ∀ j u, (u32s xs)[j]? = some u → (w.alloc (.cells #[] 70)).cell? (ad.add j) = some u := fun j u hu => by
      obtain ⟨h1, hb⟩ := hcells j u hu
      rw [World.cell?_alloc_lt _ _ _ (by rw [block_of_add]; exact hb)]; exact h1
    go_enter Tryd.func106, Tryd.ntmps106
    go_wp2_with (first | (at_builtin; refine wpList_append_own _ rfl _ _ 28 rfl w.heap.size 70 i0 (.int .u32 0) 1 4 Tryd.underlying28 hi hz0 hz1 hz2 rfl (by omega) _ 0 [] rfl hown0 ad xs.length cap (u32s xs) rfl (by simp [u32s]) hcells' (u32s_oneCell _) (by unfold maxLen; omega) (by omega) (by simp) ?_) | fail)
    intro v' w1 hown1 hgrow1 _
    have hb : Ext w w1 := ((Below.refl _ _).alloc (Nat.le_refl _) _).grown hgrow1 (by simp) (by simp [Value.ownBlock])
    clear hgrow1
    go_wp2
    go_ret
    exact ⟨_, rfl, U32s.of_row hown1, hb, fun b h => (hown1.lt b h).1⟩

end Go.Proofs.YtkjcbfaimonaoaaDoor
