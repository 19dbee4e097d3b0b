/- Samples, on lists of integers: sums, frequencies. No program is named here. estimator.read. estimator: Frequencies, Index, Coverage, Good, Carter. estimator: one, Coverage, Good. -/
import Derived.Test.YtfnngchanhnaiaaDoorNatural
import Derived.Test.YtfnngchanhnaiaaDoorKeep
import Derived.Test.YtfnngchanhnaiaaDoorKeepB
import Derived.Test.YtfnngchanhnaiaaDoorFrac
import Derived.Test.YtfnngchanhnaiaaDoorShelf
import Derived.Test.YtfnngchanhnaiaaDoorFracS
import Derived.Deep.RegionHeld3
import Derived.Deep.RegionLaw
import Derived.Deep.DeepCutAuto
set_option linter.unusedVariables false
set_option linter.unusedSimpArgs false
set_option maxRecDepth 100000
namespace Go.Proofs.YtfnngchanhnaiaaDoor
open Num

/-- An element of a sample. -/
abbrev InS (z : Int) : Prop := 1 ≤ z ∧ z ≤ 64
def Samp (zs : List Int) : Prop := (1 ≤ zs.length ∧ zs.length ≤ 64) ∧ (∀ k, k < zs.length → InS (zs.getD k 0)) ∧ zs.sum ≤ 64
def sumUp (zs : List Int) (k : Nat) : Int := (zs.take k).sum

theorem take_snoc {zs : List Int} {k : Nat} (h : k < zs.length) : zs.take (k + 1) = zs.take k ++ [zs.getD k 0] := by
  rw [List.take_add_one, List.getElem?_eq_getElem h]
  simp [h]
theorem sumUp_zero (zs : List Int) : sumUp zs 0 = 0 := by simp [sumUp]
theorem sumUp_succ {zs : List Int} {k : Nat} (h : k < zs.length) : sumUp zs (k + 1) = sumUp zs k + zs.getD k 0 := by
  unfold sumUp
  rw [take_snoc h, List.sum_append]
  simp
theorem sumUp_all (zs : List Int) : sumUp zs zs.length = zs.sum := by simp [sumUp]
theorem sumUp_le {zs : List Int} : ∀ {k : Nat}, k ≤ zs.length → (∀ j, j < k → InS (zs.getD j 0)) → (k : Int) ≤ sumUp zs k ∧ sumUp zs k ≤ 64 * k
  | 0, _, _ => by rw [sumUp_zero]; omega
  | k + 1, h, hz => by
    have := sumUp_le (k := k) (by omega) fun j hj => hz j (by omega)
    have h2 := hz k (by omega)
    rw [sumUp_succ (by omega)]
    omega

theorem first_bad (zs : List Int) : ∀ n, n ≤ zs.length → (∀ j, j < n → InS (zs.getD j 0)) ∨ ∃ k, k < n ∧ (∀ j, j < k → InS (zs.getD j 0)) ∧ ¬ InS (zs.getD k 0)
  | 0, _ => .inl fun j hj => by omega
  | n + 1, h => by
    rcases first_bad zs n (by omega) with h1 | ⟨k, hk, h1, h2⟩
    · by_cases hz : InS (zs.getD n 0)
      · refine .inl fun j hj => ?_
        rcases Nat.lt_or_ge j n with h' | h'
        · exact h1 j h'
        · rw [show j = n from by omega]; exact hz
      · exact .inr ⟨n, by omega, h1, hz⟩
    · exact .inr ⟨k, by omega, h1, h2⟩
/-- The four ways of a list. -/
theorem samp_cases (zs : List Int) : Samp zs ∨ (zs.length = 0 ∨ 64 < zs.length) ∨ ((1 ≤ zs.length ∧ zs.length ≤ 64) ∧ ∃ k, k < zs.length ∧ (∀ j, j < k → InS (zs.getD j 0)) ∧ ¬ InS (zs.getD k 0)) ∨
    ((1 ≤ zs.length ∧ zs.length ≤ 64) ∧ (∀ j, j < zs.length → InS (zs.getD j 0)) ∧ 64 < zs.sum) := by
  by_cases hl : 1 ≤ zs.length ∧ zs.length ≤ 64
  · rcases first_bad zs zs.length (Nat.le_refl _) with h1 | h1
    · by_cases hs : zs.sum ≤ 64
      · exact .inl ⟨hl, h1, hs⟩
      · exact .inr (.inr (.inr ⟨hl, h1, by omega⟩))
    · exact .inr (.inr (.inl ⟨hl, h1⟩))
  · exact .inr (.inl (by omega))

/-- The frequencies of the first k elements. -/
def frq (zs : List Int) (m k : Nat) : List Int := (List.range m).map fun (j : Nat) => (((zs.take k).count ((j : Int) + 1) : Nat) : Int)
theorem frq_length (zs : List Int) (m k : Nat) : (frq zs m k).length = m := by simp [frq]
theorem frq_zero (zs : List Int) (m : Nat) : frq zs m 0 = List.replicate m 0 := by
  unfold frq
  refine List.ext_getElem (by simp) fun i h1 h2 => ?_
  simp
theorem frq_getD {zs : List Int} {m k j : Nat} (h : j < m) : (frq zs m k).getD j 0 = (((zs.take k).count ((j : Int) + 1) : Nat) : Int) := by
  simp [frq, List.getD, h]
theorem frq_succ {zs : List Int} {m k j : Nat} (h : k < zs.length) (hj : j < m) (hz : zs.getD k 0 = (j : Int) + 1) : frq zs m (k + 1) = (frq zs m k).set j ((frq zs m k).getD j 0 + 1) := by
  rw [frq_getD hj]
  refine List.ext_getElem (by simp [frq]) fun i h1 h2 => ?_
  rw [List.getElem_set]
  simp only [frq, List.getElem_map, List.getElem_range, take_snoc h, List.count_append, hz]
  by_cases e : j = i
  · subst e
    rw [if_pos rfl]
    simp
  · rw [if_neg e, List.count_singleton, if_neg (by simp; omega)]
    simp
theorem frq_le {zs : List Int} {m k j : Nat} (h : j < m) (hk : k ≤ zs.length) : 0 ≤ (frq zs m k).getD j 0 ∧ (frq zs m k).getD j 0 ≤ zs.length := by
  rw [frq_getD h]
  have := List.count_le_length (a := (j : Int) + 1) (l := zs.take k)
  rw [List.length_take] at this
  omega

end Go.Proofs.YtfnngchanhnaiaaDoor
namespace Go.Proofs.YtfnngchanhnaiaaDoor
open Go.RowKit Num

theorem max_of {zs : List Int} : ∀ {k : Nat}, 0 < k → k ≤ zs.length → (∀ j, j < k → InS (zs.getD j 0)) → InS (Lib.maxOf (zs.take k)) ∧ ∀ j, j < k → zs.getD j 0 ≤ Lib.maxOf (zs.take k)
  | 0, h, _, _ => by omega
  | k + 1, _, hk, hz => by
    rcases Nat.eq_zero_or_pos k with h0 | h0
    · subst h0
      rw [Lib.maxOf_one]
      exact ⟨hz 0 (by omega), fun j hj => by rw [show j = 0 from by omega]; exact Int.le_refl _⟩
    · obtain ⟨h1, h2⟩ := max_of (k := k) h0 (by omega) fun j hj => hz j (by omega)
      have h3 := hz k (by omega)
      rw [Lib.maxOf_step zs k h0 (by omega)]
      refine ⟨by unfold InS at *; omega, fun j hj => ?_⟩
      rcases Nat.lt_or_ge j k with h | h
      · have := h2 j h; omega
      · rw [show j = k from by omega]; omega
/-- How many frequencies a sample has. -/
def mostOf (zs : List Int) : Nat := (Lib.maxOf zs).toNat
def freqs (zs : List Int) : List Int := frq zs (mostOf zs) zs.length
theorem Samp.most {zs : List Int} (h : Samp zs) : (mostOf zs : Int) = Lib.maxOf zs ∧ 1 ≤ mostOf zs ∧ mostOf zs ≤ 64 ∧ ∀ j, j < zs.length → zs.getD j 0 ≤ mostOf zs := by
  obtain ⟨h1, h2, _⟩ := h
  obtain ⟨a, b⟩ := max_of (k := zs.length) (by omega) (Nat.le_refl _) h2
  rw [List.take_length] at a b
  have e : (mostOf zs : Int) = Lib.maxOf zs := by unfold mostOf; unfold InS at a; omega
  unfold InS at a
  refine ⟨e, by omega, by omega, fun j hj => by rw [e]; exact b j hj⟩

/-- What read gives of a list that is no sample. -/
def GivesNo (w : World) (e : Ending) (w' : World) : Prop := e = .returned (.tuple #[.agg #[.int .i64 0, .int .i64 0, .slice none 0 0], .int .i64 1]) ∧ Ext w w'
/-- What read gives of a sample. -/
def GivesSm (w : World) (zs : List Int) (e : Ending) (w' : World) : Prop :=
  ∃ A c, e = .returned (.tuple #[.agg #[.int .i64 zs.sum, .int .i64 zs.length, .slice A (mostOf zs) c], .int .i64 0]) ∧ IntsV w' (.slice A (mostOf zs) c) (freqs zs) ∧ Ext w w' ∧ New w.heap.size (.slice A (mostOf zs) c)

abbrev smz : Obj := .cells #[.int .i64 0, .int .i64 0, .slice none 0 0] 47

theorem read_long {A : Option Addr} {n c : Nat} {w : World} (h : n = 0 ∨ 64 < n) :
    Calls Tryd.prog 19 #[.slice A n c] w (GivesNo w) := by
  have h' : (n = 0) ∨ (n ≠ 0 ∧ 64 < n) := by omega
  rcases h' with h' | ⟨h0, h'⟩
  all_goals
    go_enter Tryd.func19, Tryd.ntmps19
    go_upto_region 1 with (fail)
    have hF0 := FBox.new w (.int .i64 0) (.int .i64 0) (.slice none 0 0) 47
    have x0 : Ext w (w.alloc smz) := ext_alloc (Below.refl _ _) _
    generalize w.alloc (.cells #[.int .i64 0, .int .i64 0, .slice none 0 0] 47) = W0 at *
    obtain ⟨r0, r1, r2, g0, g1, g2⟩ := hF0
    go_wp2
    obtain ⟨q0, q1, q2⟩ := set3 r0 r1 r2 (.int .i64 0) (.int .i64 0) (.slice none 0 0)
    refine bodyPost_ret (v := .tuple #[.agg #[.int .i64 0, .int .i64 0, .slice none 0 0], .int .i64 1]) (by simp [results, Tryd.results19, go_sem, q0, q1, q2]) rfl ?_
    exact ⟨rfl, ext_put x0 (Nat.le_refl _) _ _ _⟩

theorem FBox.set0 {w : World} {b : Nat} {x y z : Value} (h : FBox w b x y z) (v : Value) : FBox (w.setCell ⟨b, 0, none⟩ v) b v y z := by
  obtain ⟨h0, h1, h2, f0, f1, f2⟩ := h
  exact ⟨World.cell?_setCell_same _ _ _ h0, by rw [World.cell?_setCell_other _ _ _ _ (by simp)]; exact h1, by rw [World.cell?_setCell_other _ _ _ _ (by simp)]; exact h2,
    by rw [World.frozen?_setCell]; exact f0, by rw [World.frozen?_setCell]; exact f1, by rw [World.frozen?_setCell]; exact f2⟩
theorem FBox.set2 {w : World} {b : Nat} {x y z : Value} (h : FBox w b x y z) (v : Value) : FBox (w.setCell ⟨b, 2, none⟩ v) b x y v := by
  obtain ⟨h0, h1, h2, f0, f1, f2⟩ := h
  exact ⟨by rw [World.cell?_setCell_other _ _ _ _ (by simp)]; exact h0, by rw [World.cell?_setCell_other _ _ _ _ (by simp)]; exact h1, World.cell?_setCell_same _ _ _ h2,
    by rw [World.frozen?_setCell]; exact f0, by rw [World.frozen?_setCell]; exact f1, by rw [World.frozen?_setCell]; exact f2⟩
theorem FBox.away1 {w : World} {b : Nat} {p : Addr} {x y z : Value} (h : FBox w b x y z) (hne : p.block ≠ b) (v : Value) : FBox (w.setCell p v) b x y z := by
  obtain ⟨h0, h1, h2, f0, f1, f2⟩ := h
  have ne : ∀ j : Nat, p ≠ ⟨b, j, none⟩ := fun j e => hne (by rw [e])
  exact ⟨by rw [World.cell?_setCell_other _ _ _ _ (ne 0)]; exact h0, by rw [World.cell?_setCell_other _ _ _ _ (ne 1)]; exact h1, by rw [World.cell?_setCell_other _ _ _ _ (ne 2)]; exact h2,
    by rw [World.frozen?_setCell]; exact f0, by rw [World.frozen?_setCell]; exact f1, by rw [World.frozen?_setCell]; exact f2⟩

theorem i64l_replicate (n : Nat) : (madeCells #[Value.int .i64 0] n).toList = i64l (List.replicate n 0) := by
  refine List.ext_getElem (by simp [madeCells, Value.cells, i64l]) fun i h1 h2 => ?_
  simp [madeCells, Value.cells, i64l, Nat.mod_one]
theorem i64l_set (l : List Int) (j : Nat) (x : Int) : i64l (l.set j x) = (i64l l).set j (.int .i64 x) := by simp [i64l, List.map_set]
theorem cell_spot {w : World} {p : Addr} {u : Value} (h : w.cell? p = some u) : p.spot = none := by
  unfold World.cell? at h
  split at h
  · split at h
    · cases h
    · simp_all
  · cases h
/-- Where a list that is not empty lies. -/
theorem IntsV.plain {w : World} {A : Option Addr} {n c : Nat} {zs : List Int} (h : IntsV w (.slice A n c) zs) (h0 : 0 < zs.length) :
    ∃ b o, A = some ⟨b, o, none⟩ ∧ ∀ j, j < zs.length → w.cell? ⟨b, o + j, none⟩ = some (.int .i64 (zs.getD j 0)) := by
  obtain ⟨⟨b, o, sp⟩, rfl, hb, hc⟩ := h.at_ h0
  have hsp : sp = none := by have := cell_spot hc; simpa [Addr.add] using this
  subst hsp
  refine ⟨b, o, rfl, fun j hj => ?_⟩
  obtain ⟨ad, e, _, hc'⟩ := h.at_ hj
  injection e with e
  subst e
  unfold Addr.add at hc'
  split at hc'
  · subst_vars; exact hc'
  · exact hc'

set_option maxHeartbeats 4000000 in
theorem read_go {zs : List Int} {x : Value} {w : World} (hx : IntsV w x zs) (h1 : 1 ≤ zs.length) (h2 : zs.length ≤ 64) :
    Calls Tryd.prog 19 #[x] w (fun e w' => (Samp zs ∧ GivesSm w zs e w') ∨ (¬ Samp zs ∧ GivesNo w e w')) := by
  obtain ⟨A, c, rfl, hc1, hc2, hr⟩ := id hx
  obtain ⟨i0, hi, hz0, hz1, hz2⟩ := info_parts info_int
  have HX := Lib.hid hx
  clear hr hx
  have hb0 : ¬ zs = [] := fun e => by rw [e] at h1; simp at h1
  have hb1 : ((zs.length : Int) == 0) = false := by simp; exact hb0
  have hb2 : ¬ (64 : Int) < zs.length := by omega
  go_enter Tryd.func19, Tryd.ntmps19
  go_upto_region 4 with (fail)
  have hA0 := FBox.new w (.int .i64 0) (.int .i64 0) (.slice none 0 0) 47
  have hB1 := FBox.new (w.alloc smz) (.int .i64 0) (.int .i64 zs.length) (.slice none 0 0) 47
  rw [show (w.alloc smz).heap.size = w.heap.size + 1 from by simp] at hB1
  have hA1 := hA0.below (ext_alloc (Below.refl _ _) (.cells #[.int .i64 0, .int .i64 zs.length, .slice none 0 0] 47))
  have hE1 : Ext w ((w.alloc smz).alloc (.cells #[.int .i64 0, .int .i64 zs.length, .slice none 0 0] 47)) := ext_alloc (ext_alloc (Below.refl _ _) _) _
  clear hA0
  generalize (w.alloc (.cells #[.int .i64 0, .int .i64 0, .slice none 0 0] 47)).alloc (.cells #[.int .i64 0, .int .i64 zs.length, .slice none 0 0] 47) = W1 at *
  go_wp2
  go_loopw [23] (fun iv wr => ∃ k : Nat, k ≤ zs.length ∧ iv = .int .i64 k ∧ FBox wr w.heap.size (.int .i64 0) (.int .i64 0) (.slice none 0 0) ∧ FBox wr (w.heap.size + 1) (.int .i64 (sumUp zs k)) (.int .i64 zs.length) (.slice none 0 0) ∧ (∀ j, j < k → InS (zs.getD j 0)) ∧ Ext w wr) (fun iv _ => zs.length - (intOf iv).toNat)
  case atStart => exact ⟨0, Nat.zero_le _, rfl, hA1, by rw [sumUp_zero]; exact hB1, fun j hj => by omega, hE1⟩
  case round =>
    clear hA1 hB1 hE1
    obtain ⟨k, hk, rfl, hA, hB, hin, hE⟩ := hrel
    by_cases hkl : k < zs.length
    · obtain ⟨ad, rfl, hb, hc⟩ := (HX.out.below hE).at_ hkl
      have HS := Lib.hid (sumUp_succ hkl)
      have hle := sumUp_le hk hin
      by_cases hz : InS (zs.getD k 0)
      · obtain ⟨hz1', hz2'⟩ := id hz
        have HIN := Lib.hid (show ∀ j, j < k + 1 → InS (zs.getD j 0) from fun j hj => by
          rcases Nat.lt_or_ge j k with h | h
          · exact hin j h
          · rw [show j = k from by omega]; exact hz)
        generalize zs.getD k 0 = z at *
        generalize sumUp zs k = sk at *
        have hw1 : IntKind.i64.wrap (sk + z) = sk + z := wrap_in (by omega)
        obtain ⟨r0, r1, r2, g0, g1, g2⟩ := id hB
        have hn1 : ¬ z < 1 := by omega
        have hn2 : ¬ (64 : Int) < z := by omega
        go_wp2
        go_roundw
        case rel => exact ⟨k + 1, by omega, by go_num, hA.away1 (by simp) _, by rw [HS.out]; exact hB.set0 _, HIN.out, hE.setCell (by simp) _⟩
        case measure => simp [intOf]; omega
      · have HNS := Lib.hid (show ¬ Samp zs from fun h => hz (h.2.1 k hkl))
        obtain ⟨r0, r1, r2, g0, g1, g2⟩ := id hA
        generalize zs.getD k 0 = z at *
        have hz' : z < 1 ∨ (¬ z < 1 ∧ 64 < z) := by unfold InS at hz; omega
        rcases hz' with hz' | ⟨hz'', hz'⟩
        all_goals
          go_wp2
          obtain ⟨q0, q1, q2⟩ := set3 r0 r1 r2 (.int .i64 0) (.int .i64 0) (.slice none 0 0)
          refine bodyPost_ret (v := .tuple #[.agg #[.int .i64 0, .int .i64 0, .slice none 0 0], .int .i64 1]) (by simp [results, Tryd.results19, go_sem, q0, q1, q2]) rfl ?_
          exact .inr ⟨HNS.out, rfl, ext_put hE (Nat.le_refl _) _ _ _⟩
    · have hke : k = zs.length := by omega
      subst hke
      rw [sumUp_all] at hB
      have HIN := Lib.hid hin
      have hle := sumUp_le (Nat.le_refl _) hin
      rw [sumUp_all] at hle
      by_cases hs : zs.sum ≤ 64
      · have hsamp : Samp zs := ⟨⟨h1, h2⟩, hin, hs⟩
        obtain ⟨m1, m2, m3, m4⟩ := hsamp.most
        have hwz : w.heap.size + 1 < wr.heap.size := World.block_lt_of_cell? _ _ hB.1
        obtain ⟨b, o, rfl, hcs⟩ := (HX.out.below hE).plain (by omega)
        have HMX := Lib.hid (Tryd.slices_Max_int b o zs.length c zs wr (by omega) (Nat.le_refl _) (by omega) hcs)
        rw [List.take_length, ← m1] at HMX
        have HSA := Lib.hid hsamp
        have HFR := Lib.hid (show freqs zs = frq zs (mostOf zs) zs.length from rfl)
        clear hsamp hcs m1
        generalize hmm : mostOf zs = m at *
        have HMM := Lib.hid hmm
        clear hmm
        have hns : ¬ (64 : Int) < zs.sum := by omega
        have HLE := Lib.hid hle
        have HHS := Lib.hid hs
        clear hle hs
        obtain ⟨b0, b1, b2, g0, g1, g2⟩ := id hB
        go_upto_region 14 with (first
          | (go_at_call 27; refine HMX.out.mono ?_; rintro e w' ⟨rfl, rfl⟩)
          | (at_make; refine wpList_make_full _ rfl _ _ 24 rfl w'.heap.size 3 i0 (.int .i64 0) 1 Tryd.underlying24 hi hz0 hz1 _ _ _ _ m rfl rfl (by omega) (by omega) ?b1 ?b2 ?b3 ?_))
        case b1 => rw [hz2]; omega
        case b2 => unfold maxLen; omega
        case b3 => exact Nat.le_refl _
        intro w4 hown hgrow
        rw [i64l_replicate] at hown
        have hb4 : Ext w' w4 := (Below.refl _ _).grown hgrow (Nat.le_refl _) (by simp)
        clear hgrow
        obtain ⟨b0', b1', b2', g0', g1', g2'⟩ := hB.below hb4
        go_upto_region 14 with (fail)
        have hA4 := (hA.below hb4).away1 (p := ⟨w.heap.size + 1, 2, none⟩) (by simp) (.slice (some ⟨w'.heap.size, 0, none⟩) m m)
        have hB4 := (hB.below hb4).set2 (.slice (some ⟨w'.heap.size, 0, none⟩) m m)
        have hO4 := ownsRow_setCell_below hown (a := ⟨w.heap.size + 1, 2, none⟩) hwz (.slice (some ⟨w'.heap.size, 0, none⟩) m m)
        have hE4 := (hE.trans hb4).setCell (p := ⟨w.heap.size + 1, 2, none⟩) (Nat.le_succ _) (.slice (some ⟨w'.heap.size, 0, none⟩) m m)
        have hX4 := HX.out.below (hE4)
        generalize w4.setCell ⟨w.heap.size + 1, 2, none⟩ (.slice (some ⟨w'.heap.size, 0, none⟩) m m) = W5 at *
        rw [← frq_zero zs] at hO4
        generalize w'.heap.size = g at *
        clear hA hB hE hown hb4 b0 b1 b2 g0 g1 g2 b0' b1' b2' g0' g1' g2'
        go_wp2
        go_loopw [50] (fun iv wr => ∃ k : Nat, k ≤ zs.length ∧ iv = .int .i64 k ∧ FBox wr w.heap.size (.int .i64 0) (.int .i64 0) (.slice none 0 0) ∧ FBox wr (w.heap.size + 1) (.int .i64 zs.sum) (.int .i64 zs.length) (.slice (some ⟨g, 0, none⟩) m m) ∧ wr.ownsRow g 3 1 (.slice (some ⟨g, 0, none⟩) m m) m (i64l (frq zs m k)) ∧ Ext w wr) (fun iv _ => zs.length - (intOf iv).toNat)
        case atStart => exact ⟨0, Nat.zero_le _, rfl, hA4, hB4, hO4, hE4⟩
        case round =>
          clear hA4 hB4 hO4 hE4
          obtain ⟨k, hk, rfl, hA, hB, hO, hE⟩ := hrel
          by_cases hkl : k < zs.length
          · obtain ⟨bq, oq, e, hcq⟩ := (HX.out.below hE).plain (by omega)
            injection e with e
            injection e with e1 e2
            subst e1 e2
            have hc := hcq k hkl
            clear hcq
            obtain ⟨i1, i2⟩ := hin k hkl
            have i3 := m4 k hkl
            obtain ⟨j, hj⟩ : ∃ j : Nat, zs.getD k 0 = (j : Int) + 1 := ⟨(zs.getD k 0 - 1).toNat, by omega⟩
            have hjm : j < m := by omega
            have HS := Lib.hid (frq_succ (m := m) hkl hjm hj)
            obtain ⟨l1, l2⟩ := frq_le (zs := zs) (k := k) hjm hk
            have hcf := hO.cellAt j (by omega)
            have hff := hO.frozenAt j
            rw [i64l_get _ (by rw [frq_length]; exact hjm)] at hcf
            rw [hj] at hc
            clear hj i1 i2 i3
            generalize (frq zs m k).getD j 0 = f at *
            have hw1 : IntKind.i64.wrap ((j : Int) + 1 - 1) = (j : Int) := by rw [wrap_in (by omega)]; omega
            have hw2 : IntKind.i64.wrap (f + 1) = f + 1 := wrap_in (by omega)
            obtain ⟨r0, r1, r2, q0, q1, q2⟩ := id hB
            have hjm' : (j : Int) < (m : Int) := by omega
            go_wp2
            go_roundw
            case rel => exact ⟨k + 1, by omega, by go_num, hA.away1 (by show g ≠ _; omega) _, hB.away1 (by show g ≠ _; omega) _, by rw [HS.out, i64l_set]; exact (hO.stored j _).1, hE.setCell (by show w.heap.size ≤ g; omega) _⟩
            case measure => simp [intOf]; omega
          · have hke : k = zs.length := by omega
            subst hke
            obtain ⟨r0, r1, r2, q0, q1, q2⟩ := id hB
            obtain ⟨t0, t1, t2, _, _, _⟩ := id hA
            go_wp2
            obtain ⟨v0, v1, v2⟩ := set3 t0 t1 t2 (.int .i64 zs.sum) (.int .i64 zs.length) (.slice (some ⟨g, 0, none⟩) m m)
            refine bodyPost_ret (v := .tuple #[.agg #[.int .i64 zs.sum, .int .i64 zs.length, .slice (some ⟨g, 0, none⟩) m m], .int .i64 0]) (by simp [results, Tryd.results19, go_sem, v0, v1, v2]) rfl ?_
            have hI := ownsRow_setCell_below (ownsRow_setCell_below (ownsRow_setCell_below hO (a := ⟨w.heap.size, 0, none⟩) (by show w.heap.size < g; omega) (.int .i64 zs.sum)) (a := ⟨w.heap.size, 1, none⟩) (by show w.heap.size < g; omega) (.int .i64 zs.length)) (a := ⟨w.heap.size, 2, none⟩) (by show w.heap.size < g; omega) (.slice (some ⟨g, 0, none⟩) m m)
            refine .inl ⟨HSA.out, some ⟨g, 0, none⟩, m, by rw [HMM.out], ?_, ext_put hE (Nat.le_refl _) _ _ _, ?_⟩
            · rw [HFR.out, HMM.out]
              exact IntsV.of_own hI
            · rw [HMM.out]
              exact New.at_ (by omega)
      · have HNS := Lib.hid (show ¬ Samp zs from fun h => hs h.2.2)
        generalize zs.sum = S at *
        obtain ⟨r0, r1, r2, g0, g1, g2⟩ := id hA
        obtain ⟨b0, b1, b2, _, _, _⟩ := id hB
        have hs' : (64 : Int) < S := by omega
        go_wp2
        obtain ⟨q0, q1, q2⟩ := set3 r0 r1 r2 (.int .i64 0) (.int .i64 0) (.slice none 0 0)
        refine bodyPost_ret (v := .tuple #[.agg #[.int .i64 0, .int .i64 0, .slice none 0 0], .int .i64 1]) (by simp [results, Tryd.results19, go_sem, q0, q1, q2]) rfl ?_
        exact .inr ⟨HNS.out, rfl, ext_put hE (Nat.le_refl _) _ _ _⟩

end Go.Proofs.YtfnngchanhnaiaaDoor
namespace Go.Proofs.YtfnngchanhnaiaaDoor
open Go.RowKit Num

theorem read_ok {zs : List Int} {x : Value} {w : World} (hx : IntsV w x zs) (hs : Samp zs) : Calls Tryd.prog 19 #[x] w (GivesSm w zs) :=
  (read_go hx hs.1.1 hs.1.2).mono fun e w' h => by
    rcases h with ⟨_, h⟩ | ⟨h, _⟩
    · exact h
    · exact absurd hs h
theorem read_no {zs : List Int} {x : Value} {w : World} (hx : IntsV w x zs) (hs : ¬ Samp zs) : Calls Tryd.prog 19 #[x] w (GivesNo w) := by
  by_cases hl : 1 ≤ zs.length ∧ zs.length ≤ 64
  · exact (read_go hx hl.1 hl.2).mono fun e w' h => by
      rcases h with ⟨h, _⟩ | ⟨_, h⟩
      · exact absurd h hs
      · exact h
  · obtain ⟨A, c, rfl, _⟩ := hx
    exact read_long (by omega)
theorem freqs_length (zs : List Int) : (freqs zs).length = mostOf zs := frq_length _ _ _

theorem efreq_ok {zs : List Int} {x : Value} {w : World} (hx : IntsV w x zs) (hs : Samp zs) : Calls Tryd.prog 10 #[x] w (GivesI w (freqs zs) 0) := by
  go_enter Tryd.func10, Tryd.ntmps10
  go_wp2_with (go_at_call 19; (with_reducible refine (read_ok hx hs).mono ?_); rintro e w1 ⟨A1, c1, rfl, h1, x1, n1⟩)
  go_ret2
  refine ⟨A1, c1, by rw [freqs_length]; rfl, ?_, ext_alloc x1 _, ?_⟩
  · rw [freqs_length]; exact h1.below (ext_alloc (Below.refl _ _) _)
  · rw [freqs_length]; exact n1
theorem efreq_no {zs : List Int} {x : Value} {w : World} (hx : IntsV w x zs) (hs : ¬ Samp zs) : Calls Tryd.prog 10 #[x] w (GivesI w [] 1) := by
  go_enter Tryd.func10, Tryd.ntmps10
  go_wp2_with (go_at_call 19; (with_reducible refine (read_no hx hs).mono ?_); rintro e w1 ⟨rfl, x1⟩)
  go_ret2
  exact GivesI.none_ (ext_alloc x1 _)

/-- What a function that answers (Fraction, Errno) gives. -/
def GivesFE (w : World) (q : Rat) (e : Ending) (w' : World) : Prop :=
  ∃ b A k c A' k' c', e = .returned (.tuple #[.agg #[.bool b, .slice A k c, .slice A' k' c'], .int .i64 0]) ∧ FracV w' b (.slice A k c) (.slice A' k' c') q ∧ Ext w w' ∧ New w.heap.size (.slice A k c) ∧ New w.heap.size (.slice A' k' c')
def GivesFN (w : World) (er : Int) (e : Ending) (w' : World) : Prop :=
  e = .returned (.tuple #[.agg #[.bool false, .slice none 0 0, .slice none 0 0], .int .i64 er]) ∧ Ext w w'
theorem GivesFE.box {w w1 : World} {b : Bool} {A A' : Option Addr} {k c k' c' B : Nat} {q : Rat} {p0 p1 p2 : Value} (hE : Ext w w1) (h : FracV w1 b (.slice A k c) (.slice A' k' c') q) (hn : New (B + 1) (.slice A k c)) (hn' : New (B + 1) (.slice A' k' c')) (hB : w.heap.size ≤ B) :
    GivesFE w q (.returned (.tuple #[.agg #[.bool b, .slice A k c, .slice A' k' c'], .int .i64 0])) (((w1.setCell ⟨B, 0, none⟩ p0).setCell ⟨B, 1, none⟩ p1).setCell ⟨B, 2, none⟩ p2) := by
  obtain ⟨_, _, _, _, _, _, _, e, h1, h2, h3, h4⟩ := GivesF.box (p0 := p0) (p1 := p1) (p2 := p2) hE h hn hn' hB
  injection e with e
  injection e with e
  simp only [Array.mk.injEq, List.cons.injEq, Value.bool.injEq, Value.slice.injEq, and_true] at e
  obtain ⟨rfl, ⟨rfl, rfl, rfl⟩, rfl, rfl, rfl⟩ := e
  exact ⟨_, _, _, _, _, _, _, rfl, h1, h2, h3, h4⟩

set_option maxHeartbeats 1000000 in
theorem egood_no {zs : List Int} {x : Value} {w : World} (hx : IntsV w x zs) (hs : ¬ Samp zs) : Calls Tryd.prog 11 #[x] w (GivesFN w 1) := by
  go_enter Tryd.func11, Tryd.ntmps11
  go_upto_region 1 with (fail)
  have hF0 := FBox.new w (.bool false) (.slice none 0 0) (.slice none 0 0) 38
  have x0 : Ext w (w.alloc (.cells #[.bool false, .slice none 0 0, .slice none 0 0] 38)) := ext_alloc (Below.refl _ _) _
  have hX := hx.below x0
  generalize w.alloc (.cells #[.bool false, .slice none 0 0, .slice none 0 0] 38) = W0 at *
  have HF := Lib.hid (fun (w' : World) (h : Ext W0 w') => hF0.below h)
  clear hF0
  go_upto_region 2 with (go_at_call 19; (with_reducible refine (read_no hX hs).mono ?_); rintro e w1 ⟨rfl, x1⟩)
  have x2 : Ext W0 (w1.alloc smz) := ext_alloc x1 _
  generalize w1.alloc (.cells #[.int .i64 0, .int .i64 0, .slice none 0 0] 47) = W1 at *
  generalize w1.heap.size = B at *
  obtain ⟨r0, r1, r2, g0, g1, g2⟩ := HF.out _ x2
  go_wp2
  obtain ⟨q0, q1, q2⟩ := set3 r0 r1 r2 (.bool false) (.slice none 0 0) (.slice none 0 0)
  refine bodyPost_ret (v := .tuple #[.agg #[.bool false, .slice none 0 0, .slice none 0 0], .int .i64 1]) (by simp [results, Tryd.results11, go_sem, q0, q1, q2]) rfl ?_
  exact ⟨rfl, ext_put (x0.trans x2) (Nat.le_refl _) _ _ _⟩

set_option maxHeartbeats 1000000 in
theorem ecart_no {zs : List Int} {x : Value} {w : World} (hx : IntsV w x zs) (hs : ¬ Samp zs) : Calls Tryd.prog 12 #[x] w (GivesFN w 1) := by
  go_enter Tryd.func12, Tryd.ntmps12
  go_upto_region 1 with (fail)
  have hF0 := FBox.new w (.bool false) (.slice none 0 0) (.slice none 0 0) 38
  have x0 : Ext w (w.alloc (.cells #[.bool false, .slice none 0 0, .slice none 0 0] 38)) := ext_alloc (Below.refl _ _) _
  have hX := hx.below x0
  generalize w.alloc (.cells #[.bool false, .slice none 0 0, .slice none 0 0] 38) = W0 at *
  have HF := Lib.hid (fun (w' : World) (h : Ext W0 w') => hF0.below h)
  clear hF0
  go_upto_region 2 with (go_at_call 19; (with_reducible refine (read_no hX hs).mono ?_); rintro e w1 ⟨rfl, x1⟩)
  have x2 : Ext W0 (w1.alloc smz) := ext_alloc x1 _
  generalize w1.alloc (.cells #[.int .i64 0, .int .i64 0, .slice none 0 0] 47) = W1 at *
  generalize w1.heap.size = B at *
  obtain ⟨r0, r1, r2, g0, g1, g2⟩ := HF.out _ x2
  go_wp2
  obtain ⟨q0, q1, q2⟩ := set3 r0 r1 r2 (.bool false) (.slice none 0 0) (.slice none 0 0)
  refine bodyPost_ret (v := .tuple #[.agg #[.bool false, .slice none 0 0, .slice none 0 0], .int .i64 1]) (by simp [results, Tryd.results12, go_sem, q0, q1, q2]) rfl ?_
  exact ⟨rfl, ext_put (x0.trans x2) (Nat.le_refl _) _ _ _⟩

/-- Carter's approximation: numerator and denominator. -/
def carN (n d : Int) : Int := 1000 * n * d
def carD (n d : Int) : Int := if n < 2 * d then 1214 * n - 1197 * d else if n < 3 * d then 1124 * n - 1016 * d else 1069 * n - 843 * d

set_option maxHeartbeats 2000000 in
theorem ecart_ok {zs : List Int} {x : Value} {w : World} (hx : IntsV w x zs) (hs : Samp zs) : Calls Tryd.prog 12 #[x] w (GivesFE w ((carN zs.sum zs.length : Rat) / (carD zs.sum zs.length : Rat))) := by
  have HS := Lib.hid hs
  have hB9 : (0 : Int) ≤ zs.sum ∧ zs.sum ≤ 64 := by
    have := sumUp_le (Nat.le_refl _) hs.2.1
    rw [sumUp_all] at this
    exact ⟨by omega, hs.2.2⟩
  have hL9 := hs.1
  go_enter Tryd.func12, Tryd.ntmps12
  go_upto_region 1 with (fail)
  have hF0 := FBox.new w (.bool false) (.slice none 0 0) (.slice none 0 0) 38
  have x0 : Ext w (w.alloc (.cells #[.bool false, .slice none 0 0, .slice none 0 0] 38)) := ext_alloc (Below.refl _ _) _
  have hX := hx.below x0
  have hs0 : w.heap.size + 1 ≤ (w.alloc (.cells #[.bool false, .slice none 0 0, .slice none 0 0] 38)).heap.size := by simp
  generalize w.alloc (.cells #[.bool false, .slice none 0 0, .slice none 0 0] 38) = W0 at *
  have HF := Lib.hid (fun (w' : World) (h : Ext W0 w') => hF0.below h)
  clear hF0 hs
  go_upto_region 2 with (go_at_call 19; (with_reducible refine (read_ok hX HS.out).mono ?_); rintro e w1 ⟨A1, c1, rfl, h1, x1, n1⟩)
  have hB0 := FBox.new w1 (.int .i64 zs.sum) (.int .i64 zs.length) (.slice A1 (mostOf zs) c1) 47
  have x2 : Ext W0 (w1.alloc (.cells #[.int .i64 zs.sum, .int .i64 zs.length, .slice A1 (mostOf zs) c1] 47)) := ext_alloc x1 _
  have hI := h1.below (ext_alloc (Below.refl _ _) (.cells #[.int .i64 zs.sum, .int .i64 zs.length, .slice A1 (mostOf zs) c1] 47))
  generalize w1.alloc (.cells #[.int .i64 zs.sum, .int .i64 zs.length, .slice A1 (mostOf zs) c1] 47) = W1 at *
  generalize w1.heap.size = B at *
  clear h1
  obtain ⟨r0, r1, r2, g0, g1, g2⟩ := HF.out _ x2
  obtain ⟨b0, b1, b2, _, _, _⟩ := hB0
  have hw1 : IntKind.i64.wrap (2 * (zs.length : Int)) = 2 * (zs.length : Int) := wrap_in (by omega)
  have hw2 : IntKind.i64.wrap (3 * (zs.length : Int)) = 3 * (zs.length : Int) := wrap_in (by omega)
  have hw3 : IntKind.i64.wrap (1000 * zs.sum) = 1000 * zs.sum := wrap_in (by omega)
  have hp1 : 0 ≤ 1000 * zs.sum * (zs.length : Int) := Int.mul_nonneg (by omega) (by omega)
  have hp2 : 1000 * zs.sum * (zs.length : Int) ≤ 64000 * 64 := Int.mul_le_mul (by omega) (by omega) (by omega) (by omega)
  have hw4 : IntKind.i64.wrap (1000 * zs.sum * (zs.length : Int)) = carN zs.sum zs.length := wrap_in (by omega)
  have HN := Lib.hid (show -9223372036854775808 ≤ carN zs.sum zs.length ∧ carN zs.sum zs.length ≤ 9223372036854775807 from by unfold carN; omega)
  generalize hcn : carN zs.sum zs.length = cn at *
  have hcases : (zs.sum < 2 * (zs.length : Int) ∧ carD zs.sum zs.length = 1214 * zs.sum - 1197 * zs.length) ∨ ((¬ zs.sum < 2 * (zs.length : Int) ∧ zs.sum < 3 * (zs.length : Int)) ∧ carD zs.sum zs.length = 1124 * zs.sum - 1016 * zs.length) ∨ ((¬ zs.sum < 2 * (zs.length : Int) ∧ ¬ zs.sum < 3 * (zs.length : Int)) ∧ carD zs.sum zs.length = 1069 * zs.sum - 843 * zs.length) := by
    unfold carD
    split
    · exact .inl ⟨by assumption, rfl⟩
    · split
      · exact .inr (.inl ⟨⟨by assumption, by assumption⟩, rfl⟩)
      · exact .inr (.inr ⟨⟨by assumption, by assumption⟩, rfl⟩)
  generalize carD zs.sum zs.length = cd at *
  clear hp1 hp2 hcn
  rcases hcases with ⟨hc1, hcd⟩ | ⟨⟨hc1, hc2⟩, hcd⟩ | ⟨⟨hc1, hc2⟩, hcd⟩
  · have hw5 : IntKind.i64.wrap (1214 * zs.sum) = 1214 * zs.sum := wrap_in (by omega)
    have hw6 : IntKind.i64.wrap (1197 * (zs.length : Int)) = 1197 * (zs.length : Int) := wrap_in (by omega)
    have hw7 : IntKind.i64.wrap (1214 * zs.sum - 1197 * (zs.length : Int)) = cd := by rw [wrap_in (by omega)]; exact hcd.symm
    have HD := Lib.hid (show -9223372036854775808 ≤ cd ∧ cd ≤ 9223372036854775807 from by omega)
    clear hcd
    go_wp2_with (go_at_call 21; (with_reducible refine (fof_n HN.out HD.out).mono ?_); rintro e s3 ⟨b3, A3, k3, c3, B3, l3, d3, rfl, h3, z3, n3, m3⟩; obtain ⟨r0, r1, r2, g0, g1, g2⟩ := HF.out _ (x2.trans z3))
    obtain ⟨q0, q1, q2⟩ := set3 r0 r1 r2 (.bool b3) (.slice A3 k3 c3) (.slice B3 l3 d3)
    refine bodyPost_ret (v := .tuple #[.agg #[.bool b3, .slice A3 k3 c3, .slice B3 l3 d3], .int .i64 0]) (by simp [results, Tryd.results12, go_sem, q0, q1, q2]) rfl ?_
    exact GivesFE.box (x0.trans (x2.trans z3)) h3 (n3.mono (by have := x2.size; omega)) (m3.mono (by have := x2.size; omega)) (Nat.le_refl _)
  · have hw5 : IntKind.i64.wrap (1124 * zs.sum) = 1124 * zs.sum := wrap_in (by omega)
    have hw6 : IntKind.i64.wrap (1016 * (zs.length : Int)) = 1016 * (zs.length : Int) := wrap_in (by omega)
    have hw7 : IntKind.i64.wrap (1124 * zs.sum - 1016 * (zs.length : Int)) = cd := by rw [wrap_in (by omega)]; exact hcd.symm
    have HD := Lib.hid (show -9223372036854775808 ≤ cd ∧ cd ≤ 9223372036854775807 from by omega)
    clear hcd
    go_wp2_with (go_at_call 21; (with_reducible refine (fof_n HN.out HD.out).mono ?_); rintro e s3 ⟨b3, A3, k3, c3, B3, l3, d3, rfl, h3, z3, n3, m3⟩; obtain ⟨r0, r1, r2, g0, g1, g2⟩ := HF.out _ (x2.trans z3))
    obtain ⟨q0, q1, q2⟩ := set3 r0 r1 r2 (.bool b3) (.slice A3 k3 c3) (.slice B3 l3 d3)
    refine bodyPost_ret (v := .tuple #[.agg #[.bool b3, .slice A3 k3 c3, .slice B3 l3 d3], .int .i64 0]) (by simp [results, Tryd.results12, go_sem, q0, q1, q2]) rfl ?_
    exact GivesFE.box (x0.trans (x2.trans z3)) h3 (n3.mono (by have := x2.size; omega)) (m3.mono (by have := x2.size; omega)) (Nat.le_refl _)
  · have hw5 : IntKind.i64.wrap (1069 * zs.sum) = 1069 * zs.sum := wrap_in (by omega)
    have hw6 : IntKind.i64.wrap (843 * (zs.length : Int)) = 843 * (zs.length : Int) := wrap_in (by omega)
    have hw7 : IntKind.i64.wrap (1069 * zs.sum - 843 * (zs.length : Int)) = cd := by rw [wrap_in (by omega)]; exact hcd.symm
    have HD := Lib.hid (show -9223372036854775808 ≤ cd ∧ cd ≤ 9223372036854775807 from by omega)
    clear hcd
    go_wp2_with (go_at_call 21; (with_reducible refine (fof_n HN.out HD.out).mono ?_); rintro e s3 ⟨b3, A3, k3, c3, B3, l3, d3, rfl, h3, z3, n3, m3⟩; obtain ⟨r0, r1, r2, g0, g1, g2⟩ := HF.out _ (x2.trans z3))
    obtain ⟨q0, q1, q2⟩ := set3 r0 r1 r2 (.bool b3) (.slice A3 k3 c3) (.slice B3 l3 d3)
    refine bodyPost_ret (v := .tuple #[.agg #[.bool b3, .slice A3 k3 c3, .slice B3 l3 d3], .int .i64 0]) (by simp [results, Tryd.results12, go_sem, q0, q1, q2]) rfl ?_
    exact GivesFE.box (x0.trans (x2.trans z3)) h3 (n3.mono (by have := x2.size; omega)) (m3.mono (by have := x2.size; omega)) (Nat.le_refl _)

end Go.Proofs.YtfnngchanhnaiaaDoor
namespace Go.Proofs.YtfnngchanhnaiaaDoor
open Go.RowKit Num

/-- How many dies were seen k times. -/
def seen (zs : List Int) (k : Nat) : Nat := zs.count (k : Int)
theorem seen_one {zs : List Int} (hs : Samp zs) : (freqs zs).getD 0 0 = (seen zs 1 : Int) := by
  obtain ⟨_, m2, _⟩ := hs.most
  unfold freqs seen
  rw [frq_getD (by omega), List.take_length]
  rfl

theorem one_ok {zs : List Int} {n d : Value} {A : Option Addr} {c : Nat} {w : World} (hI : IntsV w (.slice A (mostOf zs) c) (freqs zs)) (hs : Samp zs) :
    Calls Tryd.prog 20 #[.agg #[n, d, .slice A (mostOf zs) c]] w (fun e w' => e = .returned (.int .i64 (seen zs 1)) ∧ Ext w w') := by
  obtain ⟨_, m2, m3, _⟩ := hs.most
  have x0 : Ext w (w.alloc (.cells #[n, d, .slice A (mostOf zs) c] 47)) := ext_alloc (Below.refl _ _) _
  obtain ⟨b, o, rfl, hcs⟩ := (hI.below x0).plain (by rw [freqs_length]; omega)
  have hc := hcs 0 (by rw [freqs_length]; omega)
  rw [seen_one hs, Nat.add_zero] at hc
  generalize seen zs 1 = k at *
  generalize mostOf zs = m at *
  have hm : (0 : Int) < m := by omega
  go_enter Tryd.func20, Tryd.ntmps20
  go_wp2
  go_ret
  exact ⟨rfl, x0⟩

end Go.Proofs.YtfnngchanhnaiaaDoor
