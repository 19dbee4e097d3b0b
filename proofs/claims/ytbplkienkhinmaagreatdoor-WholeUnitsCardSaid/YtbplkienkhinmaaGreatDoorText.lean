/- natural.Text of a number below 100. strconv.FormatUint of any number; natural.Text of a number with one limb. -/
import Derived.Test.YtbplkienkhinmaaGreatDoorNatural
import Derived.Test.YtbplkienkhinmaaGreatDoorShelf
import Derived.Test.YtbplkienkhinmaaGreatDoorMem
import Derived.Lib.AppendStr
import Derived.Lib.ItoaMem
import Derived.Lib.AppendIntMem
set_option linter.unusedVariables false
set_option linter.unusedSimpArgs false
set_option maxRecDepth 100000
namespace Go.Proofs.YtbplkienkhinmaaGreatDoor
open Go.RowKit Num

theorem info_builder : (Tryz.prog.info? 89).map (·.size) = some 2 := by kernel_rfl
theorem lies_builder : liesAt Tryz.prog Tryz.prog.depth 89 (2 / Tryz.prog.cellsOf 89) 0 89 1 = true := by kernel_rfl
theorem info_byte : (Tryz.prog.info? 5).map (fun i => (i.zero, i.size, i.bytes)) = some (some (.int .u8 0), 1, 1) := by kernel_rfl

set_option maxHeartbeats 1000000 in
theorem copyCheck_fresh (b : Nat) (w : World) (h0 : w.cell? ⟨b, 0, none⟩ = some (.pointer none)) (hsh : w.shape? b = some (89, 2)) (hfz : w.frozen? ⟨b, 0, none⟩ = false) :
    Calls Tryz.prog 69 #[.pointer (some ⟨b, 0, none⟩)] w fun e w' => e = .returned (.tuple #[]) ∧ w' = w.setCell ⟨b, 0, none⟩ (.pointer (some ⟨b, 0, none⟩)) := by
  obtain ⟨j, hj, hjs⟩ := Option.map_eq_some_iff.1 info_builder
  go_enter Tryz.func69, Tryz.ntmps69
  go_wp2
  rw [Lib.run_to_unsafe w ⟨b, 0, none⟩ Tryz.underlying86 Tryz.underlying132 hj (by rw [hjs]; decide) hsh (Nat.zero_lt_succ 1)]
  simp only [Result.andThen]
  rw [Oper.upon_value]
  go_wp2
  rw [run_callFunc_extern Tryz.func94 (by kernel_rfl) (by kernel_rfl) (by kernel_rfl) (e := Extern.AbiNoEscape.same) (by kernel_rfl)]
  rw [Lib.run_noEscape]
  simp only [Result.andThen]
  rw [Oper.upon_value]
  go_wp2
  rw [Lib.run_from_unsafe w ⟨b, 0, none⟩ Tryz.underlying132 Tryz.underlying86 hj hsh lies_builder]
  simp only [Result.andThen]
  rw [Oper.upon_value]
  go_wp2
  go_end0
  exact ⟨rfl, rfl⟩

set_option maxHeartbeats 2000000 in
theorem writeString_fresh (B b : Nat) (s : ByteArray) (w : World) (h : Lib.BuilderAt 89 5 B b (.pointer none) [] w) (hlen : s.size ≤ 100) (hBw : B ≤ w.heap.size) :
    Calls Tryz.prog 58 #[.pointer (some ⟨b, 0, none⟩), .string s] w fun e w' => e = .returned (.tuple #[.int .i64 s.size, .nilIface]) ∧ (Lib.BuilderAt 89 5 B b (.pointer (some ⟨b, 0, none⟩)) (Lib.strCells s) w' ∧ Below B w w') := by
  obtain ⟨i0, hi, hz0, hz1, hz2⟩ := info_parts info_byte
  go_enter Tryz.func58, Tryz.ntmps58
  go_wp2_with (go_at_call 69; refine (copyCheck_fresh b _ h.cell0 h.shape h.frozen0).mono ?_)
  rintro e w1 ⟨rfl, rfl⟩
  have h1 := h.used (.pointer (some ⟨b, 0, none⟩))
  have hb1 : Below B w (w.setCell ⟨b, 0, none⟩ (.pointer (some ⟨b, 0, none⟩))) := (Below.refl _ _).setCell h.1 _
  generalize w.setCell ⟨b, 0, none⟩ (.pointer (some ⟨b, 0, none⟩)) = w1 at *
  obtain ⟨hB, v, hbk, hown, hne⟩ := h1
  have c0 : w1.cell? ⟨b, 0, none⟩ = some (.pointer (some ⟨b, 0, none⟩)) := by rw [Lib.cell_of_heap hbk]; rfl
  have c1 : w1.cell? ⟨b, 1, none⟩ = some v := by rw [Lib.cell_of_heap hbk]; rfl
  go_wp2_with (at_builtin; refine Lib.wpList_append_own_string _ rfl _ _ 87 9 rfl B 5 i0 Tryz.underlying87 Tryz.underlying9 hi hz0 hz1 hz2 _ _ _ rfl hown s rfl ?c3 ?c4 ?c5 ?_)
  case c3 => unfold maxLen; simp; omega
  case c4 => simp; omega
  case c5 => have := hb1.size; omega
  intro v' w2 hown' hgrow _
  have hlt : b < w1.heap.size := by
    rcases Nat.lt_or_ge b w1.heap.size with h' | h'
    · exact h'
    · simp [Array.getElem?_eq_none h'] at hbk
  have hb2 : w2.heap[b]? = some (.cells #[.pointer (some ⟨b, 0, none⟩), v] 89 (0, 0)) := by
    rw [hgrow.block b hlt (fun e => hne e.symm)]
    exact hbk
  have d0 : w2.cell? ⟨b, 0, none⟩ = some (.pointer (some ⟨b, 0, none⟩)) := by rw [Lib.cell_of_heap hb2]; rfl
  have d1 : w2.cell? ⟨b, 1, none⟩ = some v := by rw [Lib.cell_of_heap hb2]; rfl
  have f1 : w2.frozen? ⟨b, 1, none⟩ = false := Lib.frozen_of_heap hb2 1
  obtain ⟨ao, n', cap, rfl⟩ : ∃ ao n' cap, v' = .slice ao n' cap := by
    rcases hown'.2 with ⟨hv, _⟩ | ⟨g, cap, cur, hv, _⟩
    · exact ⟨_, _, _, hv⟩
    · exact ⟨_, _, _, hv⟩
  go_wp2
  go_ret2
  refine ⟨rfl, ?_, ?_⟩
  · exact Lib.BuilderAt.put (T := 89) (e := 5) hB hb2 (bs' := Lib.strCells s) (by simpa [Lib.strCells_length] using hown') (by decide)
  · exact (hb1.grown hgrow (by have := hb1.size; omega) (fun k hk => (hown.lt k hk).1)).setCell (p := ⟨b, 1, none⟩) hB _

theorem decDigits_len {n : Nat} (hn : n < 100) : (Lib.decDigits n).length ≤ 2 := by
  rw [Lib.decDigits]
  split
  · simp
  · rw [List.length_append, Lib.decDigits, dif_pos (by omega)]
    simp

theorem formatUint_small {n : Nat} {w : World} (hn : n < 100) :
    Calls Tryz.prog 57 #[.int .u64 n, .int .i64 10] w fun e w' => e = .returned (.string ⟨(Lib.decDigits n).toArray⟩) ∧ w' = w := by
  go_enter Tryz.func57, Tryz.ntmps57
  go_wp2_with (first | (go_at_call 90; refine (Tryz.internal_strconv_small n hn _).mono ?_; rintro e w1 ⟨rfl, rfl⟩) | go_in)
  go_ret
  exact ⟨rfl, rfl⟩

set_option maxHeartbeats 2000000 in
theorem text_smallV {x : Value} {n : Nat} {w : World} (hx : NatV w x n) (hn0 : 0 < n) (hn : n < 100) :
    Calls Tryz.prog 38 #[.agg #[x]] w (fun e w' => e = .returned (.string ⟨(Lib.decDigits n).toArray⟩) ∧ Ext w w') := by
  go_enter Tryz.func38, Tryz.ntmps38
  go_upto_region 1 with (fail)
  have hx0 : Ext w (w.alloc (.cells #[x] 25)) := ext_alloc (Below.refl _ _) _
  have hX := hx.alloc (.cells #[x] 25)
  have hc : (w.alloc (.cells #[x] 25)).cell? ⟨w.heap.size, 0, none⟩ = some x := by simp [go_sem]
  generalize w.alloc (.cells #[x] 25) = W0 at *
  go_wp2_with fail
  refine (limbs_n hX).mono ?_
  rintro e w1 ⟨v1, rfl, h1, x1, n1⟩
  unfold CanV at h1
  rw [limbsOf_one hn0 (by omega)] at h1
  obtain ⟨A1, c1, rfl, hk1, hk2, hr1⟩ := id h1
  have hE := hx0.trans x1
  clear hX hc hx0 x1 n1
  go_wp2
  have hbld : Lib.BuilderAt 89 5 w1.heap.size w1.heap.size (.pointer none) [] (w1.alloc (.cells #[.pointer none, .slice none 0 0] 89)) := by
    refine ⟨Nat.le_refl _, .slice none 0 0, heap_alloc_new w1 _, World.ownsRow_nil _ _ _ _, by simp [Value.ownBlock]⟩
  have hx1 : Ext w1 (w1.alloc (.cells #[.pointer none, .slice none 0 0] 89)) := ext_alloc (Below.refl _ _) _
  generalize w1.alloc (.cells #[.pointer none, .slice none 0 0] 89) = W1 at *
  go_loopw [5] (fun iv wr => Ext w1 wr ∧ ((iv = .int .i64 0 ∧ Lib.BuilderAt 89 5 w1.heap.size w1.heap.size (.pointer none) [] wr) ∨
      (iv = .int .i64 (-1) ∧ Lib.BuilderAt 89 5 w1.heap.size w1.heap.size (.pointer (some ⟨w1.heap.size, 0, none⟩)) (Lib.strCells ⟨(Lib.decDigits n).toArray⟩) wr)))
    (fun iv _ => (intOf iv + 1).toNat)
  case atStart => exact ⟨hx1, .inl ⟨rfl, hbld⟩⟩
  case round =>
    obtain ⟨hxr, ⟨rfl, hb⟩ | ⟨rfl, hb⟩⟩ := hrel
    · obtain ⟨ad, hA, hbb, hcc⟩ := (U32s.below h1 hxr).cell (k := 0) (by simp)
      subst hA
      simp [Addr.add] at hcc
      have hsz : (ByteArray.mk (Lib.decDigits n).toArray).size ≤ 100 := by show (Lib.decDigits n).toArray.size ≤ 100; rw [List.size_toArray]; have := decDigits_len hn; omega
      have HSZ := Lib.hid hsz
      have hwz := hb.lt
      clear hsz
      go_wp2_with (first
        | (go_at_call 57; (with_reducible refine (formatUint_small hn).mono ?_); rintro e w2 ⟨rfl, rfl⟩)
        | (go_at_call 58; (with_reducible refine (writeString_fresh w1.heap.size w1.heap.size _ _ hb HSZ.out (by omega)).mono ?_); rintro e w2 ⟨rfl, hb2, hx2⟩))
      go_wp2
      go_roundw
      case rel => exact ⟨Below.trans hxr hx2, .inr ⟨by go_num, hb2⟩⟩
      case measure => simp [intOf]; try omega
    · have hwz := hb.lt
      have hb' : Lib.IsBuilder 89 5 w1.heap.size w1.heap.size (Lib.byteCells (Lib.decDigits n)) wr := .inr hb
      clear hb
      go_wp2_with (go_at_call 60; (with_reducible refine (Tryz.Builder_String_any w1.heap.size w1.heap.size (Lib.decDigits n) _ hb' (by omega)).mono ?_); rintro e w2 ⟨rfl, hx2⟩)
      go_wp2
      go_ret
      exact ⟨rfl, hE.trans (Below.trans hxr hx2)⟩

theorem text_small {x : Value} {n : Nat} {w : World} (hx : CanV w x n) (hn0 : 0 < n) (hn : n < 100) :
    Calls Tryz.prog 38 #[.agg #[x]] w (fun e w' => e = .returned (.string ⟨(Lib.decDigits n).toArray⟩) ∧ Ext w w') :=
  text_smallV (hx.nat (by unfold Fit; rw [limbsOf_one hn0 (by omega)]; simp)) hn0 hn

set_option maxHeartbeats 1000000 in
theorem text_zero {x : Value} {w : World} (hx : NatV w x 0) :
    Calls Tryz.prog 38 #[.agg #[x]] w (fun e w' => e = .returned (.string ⟨#[48]⟩) ∧ Ext w w') := by
  go_enter Tryz.func38, Tryz.ntmps38
  go_upto_region 1 with (fail)
  have hx0 : Ext w (w.alloc (.cells #[x] 25)) := ext_alloc (Below.refl _ _) _
  have hX := hx.alloc (.cells #[x] 25)
  have hc : (w.alloc (.cells #[x] 25)).cell? ⟨w.heap.size, 0, none⟩ = some x := by simp [go_sem]
  generalize w.alloc (.cells #[x] 25) = W0 at *
  go_wp2_with fail
  refine (limbs_n hX).mono ?_
  rintro e w1 ⟨v1, rfl, h1, x1, n1⟩
  unfold CanV at h1
  rw [limbsOf_zero] at h1
  obtain ⟨A1, c1, rfl, hk1, hk2, hr1⟩ := id h1
  have hE := hx0.trans x1
  clear hX hc hx0 x1 n1 h1
  go_wp2
  go_ret
  exact ⟨rfl, hE⟩

end Go.Proofs.YtbplkienkhinmaaGreatDoor
namespace Go.Proofs.YtbplkienkhinmaaGreatDoor
open Go.RowKit Num

abbrev Tab10 (w : World) : Prop := Lib.TabIs Tryz.prog w "internal/strconv.uint64pow10" .u64 Lib.pow10Tab
abbrev encB : UInt8 → Value := fun (b : UInt8) => Value.int .u8 (b.toNat : Int)

open Go.Lib Go.Sort in
set_option maxHeartbeats 4000000 in
theorem formatU_big {u : Nat} {w : World} (hu : 100 ≤ u) (hu64 : u < 18446744073709551616) (htab : Tab10 w) :
    Calls Tryz.prog 68 #[.int .u64 u, .int .i64 10] w fun e w' => e = .returned (.string ⟨(Lib.decDigits u).toArray⟩) ∧ Ext w w' := by
  have hu1 : 1 ≤ u := by omega
  have hnd20 : Lib.nDigits u ≤ 20 := by have := Lib.numDigits_eq u hu1 hu64; split at this <;> omega
  have hal : Tryz.prog.arrayLen 128 = 24 := by kernel_rfl
  have hsl : ∀ W, (Instr.sliceAt 128 (.pointer (some ⟨w.heap.size, 0, none⟩)) none (some (.int .i64 (Lib.nDigits u : Int))) none).run Tryz.prog W = .ok (.slice (some ⟨w.heap.size, 0, none⟩) (Lib.nDigits u) 24) W := fun W => by
    rw [run_sliceAt_array_h W 128 ⟨w.heap.size, 0, none⟩ (by kernel_rfl) .i64 (Lib.nDigits u : Int) (by omega) (by rw [hal]; omega)]
    go_simp
    try omega
  have hH0 : Holds encB (w.alloc (.cells Lib.zeros24 128)) w.heap.size 0 (Array.replicate (Lib.nDigits u) (0 : UInt8)) := fun j hj => by
    have hj' : j < Lib.nDigits u := by simpa using hj
    refine ⟨?_, World.frozen?_alloc_new _ _ _ _⟩
    rw [World.cell?_alloc_new, Lib.zeros24_at _ (by omega), getElem!_pos _ j hj]
    simp [encB]
  have hfmt := Tryz.internal_strconv_formatBase10 w.heap.size 0 24 u (Array.replicate (Lib.nDigits u) 0) (w.alloc (.cells Lib.zeros24 128)) hH0 (by rw [Array.size_replicate]; exact Lib.lt_pow_nDigits u) hu64 (by rw [Array.size_replicate]; omega)
  rw [Array.size_replicate] at hfmt
  have HH0 := Lib.hid hH0
  have HFM := Lib.hid hfmt
  clear hH0 hal hfmt
  go_enter Tryz.func68, Tryz.ntmps68
  go_wp2_with (go_at_call 91; refine (Tryz.internal_strconv_numDigits u hu1 hu64 _ (Lib.tabIs_alloc htab _)).mono ?_; rintro e w' ⟨rfl, rfl⟩)
  refine HFM.out.mono ?_
  rintro e w' ⟨rfl, k, v', dk, rfl, hF⟩
  have hcv : (convert 87 9 (.slice (some ⟨w.heap.size, 0, none⟩) (Lib.nDigits u) 24)).run Tryz.prog ((putRow encB (w.alloc (.cells Lib.zeros24 128)) w.heap.size 0 dk).drewN k) = .ok (.string ⟨(Lib.decDigits u).toArray⟩) ((putRow encB (w.alloc (.cells Lib.zeros24 128)) w.heap.size 0 dk).drewN k) := by
    have h := run_convert_bytes_back (P := Tryz.prog) ((putRow encB (w.alloc (.cells Lib.zeros24 128)) w.heap.size 0 dk).drewN k) 87 9 5 ⟨w.heap.size, 0, none⟩ 24 (Lib.decDigits u) Tryz.underlying87 Tryz.underlying5 Tryz.underlying9 (fun j hj => by
      rw [Lib.row_is_numeral hF j hj, Lib.add_plain, World.cell?_drewN]
      exact cell?_putRow encB _ w.heap.size 0 _ dk HH0.out (by rw [hF.size, Array.size_replicate]) j (by rw [hF.size]; rw [Lib.decDigits_length] at hj; exact hj))
    rw [Lib.decDigits_length] at h
    exact h
  go_wp2
  go_ret
  refine ⟨rfl, ?_⟩
  rw [alloc_eq_grow]
  obtain ⟨os', _, e⟩ := putRow_grow_new encB w #[.cells Lib.zeros24 128] w.heap.size 0 dk (Nat.le_refl _)
  rw [e]
  exact Lib.below_grow _ w (Nat.le_refl _) k os'

theorem formatUint_any {n : Nat} {w : World} (hn : n < 18446744073709551616) (htab : Tab10 w) :
    Calls Tryz.prog 57 #[.int .u64 n, .int .i64 10] w fun e w' => e = .returned (.string ⟨(Lib.decDigits n).toArray⟩) ∧ Ext w w' := by
  by_cases hs : n < 100
  · exact (formatUint_small hs).mono fun e w' ⟨h1, h2⟩ => ⟨h1, h2 ▸ Below.refl _ _⟩
  · go_enter Tryz.func57, Tryz.ntmps57
    go_wp2_with (go_at_call 68; (with_reducible refine (formatU_big (by omega) hn htab).mono ?_); rintro e w1 ⟨rfl, hE⟩)
    go_wp2
    go_ret
    exact ⟨rfl, hE⟩

theorem builder_keep {T e : TypeId} {B b : Nat} {p : Value} {bs : List Value} {w w' : World} (h : Lib.BuilderAt T e B b p bs w) (hE : Ext w w') : Lib.BuilderAt T e B b p bs w' := by
  have hlt := h.lt
  obtain ⟨hB, v, hb, hown, hne⟩ := h
  refine ⟨hB, v, (hE.block b hlt).trans hb, hown.kept hE.grown ?_, hne⟩
  cases hv : v.ownBlock with
  | none => exact .inl rfl
  | some g => exact .inr (by simp)

theorem pow_nDigits_le : ∀ {k u : Nat}, Lib.nDigits u = k → 2 ≤ k → 10 ^ (k - 1) ≤ u
  | 0, _, _, h => by omega
  | k + 1, u, e, h => by
    have hu : ¬ u < 10 := fun hh => by rw [Lib.nDigits_small hh] at e; omega
    rw [Lib.nDigits_big hu] at e
    rcases Nat.lt_or_ge 1 k with hk | hk
    · have := pow_nDigits_le (k := k) (u := u / 10) (by omega) (by omega)
      have e2 : (10 : Nat) ^ (k + 1 - 1) = 10 ^ (k - 1) * 10 := by rw [← Nat.pow_succ]; congr 1; omega
      rw [e2]
      omega
    · have : k = 1 := by omega
      subst this
      simp
      omega

theorem Tab10.ext {w w' : World} (h : Tab10 w) (hE : Ext w w') : Tab10 w' := by
  unfold Tab10 Lib.TabIs World.var? at *
  cases hg : Tryz.prog.globalNamed "internal/strconv.uint64pow10" with
  | none => simp [hg] at h
  | some g =>
    simp only [hg, Option.bind_some] at h ⊢
    have hlt : g < w.heap.size := by
      rcases Nat.lt_or_ge g w.heap.size with h' | h'
      · exact h'
      · rw [Array.getElem?_eq_none h'] at h; simp at h
    rw [hE.block g hlt]
    exact h

theorem digits_le9 {n : Nat} (hn : n < 1000000000) : (Lib.decDigits n).length ≤ 9 := by
  rw [Lib.decDigits_length]
  rcases Nat.lt_or_ge 9 (Lib.nDigits n) with h | h
  · exfalso
    have := pow_nDigits_le (u := n) (k := Lib.nDigits n) rfl (by omega)
    have h2 : 10 ^ 9 ≤ 10 ^ (Lib.nDigits n - 1) := Nat.pow_le_pow_right (by decide) (by omega)
    have h3 : (10 : Nat) ^ 9 = 1000000000 := by decide
    omega
  · exact h

set_option maxHeartbeats 2000000 in
theorem text_oneV {x : Value} {n : Nat} {w : World} (hx : NatV w x n) (hn0 : 0 < n) (hn : n < 1000000000) (htab : Tab10 w) :
    Calls Tryz.prog 38 #[.agg #[x]] w (fun e w' => e = .returned (.string ⟨(Lib.decDigits n).toArray⟩) ∧ Ext w w') := by
  go_enter Tryz.func38, Tryz.ntmps38
  go_upto_region 1 with (fail)
  have hx0 : Ext w (w.alloc (.cells #[x] 25)) := ext_alloc (Below.refl _ _) _
  have hX := hx.alloc (.cells #[x] 25)
  have hc : (w.alloc (.cells #[x] 25)).cell? ⟨w.heap.size, 0, none⟩ = some x := by simp [go_sem]
  generalize w.alloc (.cells #[x] 25) = W0 at *
  go_wp2_with fail
  refine (limbs_n hX).mono ?_
  rintro e w1 ⟨v1, rfl, h1, x1, n1⟩
  unfold CanV at h1
  rw [limbsOf_one hn0 (by omega)] at h1
  obtain ⟨A1, c1, rfl, hk1, hk2, hr1⟩ := id h1
  have hE := hx0.trans x1
  have HT := Lib.hid (fun (w' : World) (h : Ext w1 w') => htab.ext (hE.trans h))
  clear hX hc hx0 x1 n1
  go_wp2
  have hbld : Lib.BuilderAt 89 5 w1.heap.size w1.heap.size (.pointer none) [] (w1.alloc (.cells #[.pointer none, .slice none 0 0] 89)) := by
    refine ⟨Nat.le_refl _, .slice none 0 0, heap_alloc_new w1 _, World.ownsRow_nil _ _ _ _, by simp [Value.ownBlock]⟩
  have hx1 : Ext w1 (w1.alloc (.cells #[.pointer none, .slice none 0 0] 89)) := ext_alloc (Below.refl _ _) _
  generalize w1.alloc (.cells #[.pointer none, .slice none 0 0] 89) = W1 at *
  go_loopw [5] (fun iv wr => Ext w1 wr ∧ ((iv = .int .i64 0 ∧ Lib.BuilderAt 89 5 w1.heap.size w1.heap.size (.pointer none) [] wr) ∨
      (iv = .int .i64 (-1) ∧ Lib.BuilderAt 89 5 w1.heap.size w1.heap.size (.pointer (some ⟨w1.heap.size, 0, none⟩)) (Lib.strCells ⟨(Lib.decDigits n).toArray⟩) wr)))
    (fun iv _ => (intOf iv + 1).toNat)
  case atStart => exact ⟨hx1, .inl ⟨rfl, hbld⟩⟩
  case round =>
    obtain ⟨hxr, ⟨rfl, hb⟩ | ⟨rfl, hb⟩⟩ := hrel
    · obtain ⟨ad, hA, hbb, hcc⟩ := (U32s.below h1 hxr).cell (k := 0) (by simp)
      subst hA
      simp [Addr.add] at hcc
      have hsz : (ByteArray.mk (Lib.decDigits n).toArray).size ≤ 100 := by show (Lib.decDigits n).toArray.size ≤ 100; rw [List.size_toArray]; have := digits_le9 hn; omega
      have HSZ := Lib.hid hsz
      have hwz := hb.lt
      clear hsz
      go_wp2_with (first
        | (go_at_call 57; (with_reducible refine (formatUint_any (by omega) (HT.out _ hxr)).mono ?_); rintro e w2 ⟨rfl, hx2⟩; have hb := builder_keep hb hx2; have hxr := Below.trans hxr (hx2.mono hxr.size); have hwz := hb.lt)
        | (go_at_call 58; (with_reducible refine (writeString_fresh w1.heap.size w1.heap.size _ _ hb HSZ.out (by omega)).mono ?_); rintro e w2 ⟨rfl, hb2, hx2⟩))
      go_wp2
      go_roundw
      case rel => exact ⟨Below.trans hxr hx2, .inr ⟨by go_num, hb2⟩⟩
      case measure => simp [intOf]; try omega
    · have hwz := hb.lt
      have hb' : Lib.IsBuilder 89 5 w1.heap.size w1.heap.size (Lib.byteCells (Lib.decDigits n)) wr := .inr hb
      clear hb
      go_wp2_with (go_at_call 60; (with_reducible refine (Tryz.Builder_String_any w1.heap.size w1.heap.size (Lib.decDigits n) _ hb' (by omega)).mono ?_); rintro e w2 ⟨rfl, hx2⟩)
      go_wp2
      go_ret
      exact ⟨rfl, hE.trans (Below.trans hxr hx2)⟩

end Go.Proofs.YtbplkienkhinmaaGreatDoor
