/- limbs. -/
import Derived.Test.YtkjcbfaimonaoaaDoorTypes
import Derived.Test.YtkjcbfaimonaoaaDoorTrim
namespace Go.Proofs.YtkjcbfaimonaoaaDoor
open Go.RowKit Num

/-- What 'limbs' has done behind k rounds. -/
structure LimbsAt (xs : List Nat) (k : Nat) (ys : List Nat) (c : Nat) : Prop where
  len : ys.length = k
  digs : Digs ys
  small : c ≤ 8
  eq : val ys + 1000000000 ^ k * c = val (xs.take k)

theorem LimbsAt.zero (xs : List Nat) : LimbsAt xs 0 [] 0 := ⟨rfl, Digs.nil, by omega, by simp [val]⟩
theorem LimbsAt.step {xs ys : List Nat} {k c : Nat} (h : LimbsAt xs k ys c) (hk : k < xs.length) (hx : xs[k] < 4294967296) :
    LimbsAt xs (k + 1) (ys ++ [(c + xs[k]) % 1000000000]) ((c + xs[k]) / 1000000000) := by
  obtain ⟨h1, h2, h3, h4⟩ := h
  refine ⟨by simp [h1], h2.snoc (by omega), by omega, ?_⟩
  rw [List.take_succ_eq_append_getElem hk, val_snoc, val_snoc, ← h4, h1, List.length_take, Nat.min_eq_left (by omega), Nat.pow_succ, Nat.add_assoc, Nat.add_assoc,
    Nat.mul_assoc, ← Nat.mul_add, ← Nat.mul_add]
  congr 2
  omega
theorem LimbsAt.done {xs ys : List Nat} {c : Nat} (h : LimbsAt xs xs.length ys c) : val (ys ++ [c]) = val xs := by
  obtain ⟨h1, h2, h3, h4⟩ := h
  rw [val_snoc, h1, h4, List.take_length]

set_option maxHeartbeats 400000 in
theorem limbs_any (A : Option Addr) (n cap : Nat) (xs : List Nat) (w : World) (hr : Reads w 1 A n (u32s xs)) (hx : ∀ x ∈ xs, x < 4294967296) (hc : n ≤ cap) (hn : n ≤ 1099511627776) :
    Calls Tryd.prog 68 #[.agg #[.slice A n cap]] w (GivesS w fun w' v => CanV w' v (val xs)) := by
  have hl : xs.length = n := by simpa [u32s] using hr.1
  obtain ⟨i0, hi, hz0, hz1, hz2⟩ := info_parts info_u32
  go_enter Tryd.func68, Tryd.ntmps68
  go_wp2_with (first | (at_make; refine wpList_make_own _ rfl _ _ 28 rfl w.heap.size 70 i0 (.int .u32 0) 1 Tryd.underlying28 hi hz0 hz1 _ _ _ (n + 1) rfl rfl (by omega) ?b1 ?b2 ?b3 ?_) | go_in)
  case b1 => rw [hz2]; omega
  case b2 => unfold maxLen; omega
  case b3 => simp
  intro w1 hown hgrow
  have hb1 : Ext w w1 := ((Below.refl _ _).alloc (Nat.le_refl _) _).grown hgrow (by simp) (by simp)
  have hs1 : w.heap.size + 1 < w1.heap.size := by have := hown.lt (w.heap.size + 1) rfl; omega
  have hcell : w1.cell? ⟨w.heap.size, 0, none⟩ = some (.slice A n cap) := hgrow.cell (by simp) (by simp)
  have hr1 := hr.below hb1
  clear hgrow
  go_wp2
  go_loopw [3, 4, 15] (fun v cv i wr => ∃ (k c : Nat) (ys : List Nat), k ≤ n ∧ i = .int .i64 k ∧ v = .slice (some ⟨w.heap.size + 1, 0, none⟩) k (n + 1) ∧ cv = .int .u64 c ∧
      wr.ownsRow w.heap.size 70 1 (.slice (some ⟨w.heap.size + 1, 0, none⟩) k (n + 1)) k (u32s ys) ∧ Ext w wr ∧ LimbsAt xs k ys c ∧ wr.cell? ⟨w.heap.size, 0, none⟩ = some (.slice A n cap))
    (fun _ _ i _ => n - (intOf i).toNat)
  case atStart => exact ⟨0, 0, [], Nat.zero_le _, rfl, rfl, rfl, hown, hb1, LimbsAt.zero xs, hcell⟩
  case round =>
    obtain ⟨k, c, ys, hk, rfl, rfl, rfl, hown1, hbr, hat, hcell1⟩ := hrel
    by_cases hlt : k < n
    · have hkl : k < xs.length := by omega
      have hxk := hx xs[k] (List.getElem_mem hkl)
      obtain ⟨ad, u, rfl, hb, hu, hcl⟩ := (hr.below hbr).at_ (k := k) hlt
      have hu2 : u = .int .u32 (xs[k] : Int) := by simpa [u32s, hkl] using hu.symm
      subst hu2
      clear hu
      have hsm := hat.small
      obtain ⟨x, hxx⟩ : ∃ x, x = xs[k] := ⟨_, rfl⟩
      rw [← hxx] at hcl hxk
      have HX := Lib.hid hxx
      clear hxx
      go_wp2_with (first | (at_builtin; refine wpList_append_fits _ rfl _ _ 28 rfl w.heap.size 70 i0 1 Tryd.underlying28 hi hz1 (w.heap.size + 1) k (n + 1) (u32s ys) rfl (hown1.alloc _) ⟨wr.heap.size, 0, none⟩ 1 1 [.int .u32 (((c : Int) + x) % 1000000000)] rfl rfl (cell_one_new _ _ _) (ints_oneCell .u32 [_]) (by omega) ?_) | go_in)
      intro w2 hown2 hgrow2
      have hb2 : Ext w w2 := (hbr.alloc hbr.size _).grown hgrow2 (by have := hbr.size; simp; omega) (by simp)
      have hcell2 : w2.cell? ⟨w.heap.size, 0, none⟩ = some (.slice (some ad) n cap) := hgrow2.cell (by rw [World.cell?_alloc_lt _ _ _ (World.block_lt_of_cell? _ _ hcell1)]; exact hcell1) (by simp)
      clear hgrow2 hown1 hcell1
      go_wp2
      go_roundw
      case rel =>
        have hs := hat.step hkl (by rw [← HX.out]; exact hxk)
        rw [← HX.out] at hs
        refine ⟨k + 1, _, _, by omega, by go_num, rfl, ?_, ?_, hb2, hs, hcell2⟩
        · congr 1
        · rw [← u32s_snoc]; exact hown2
      case measure => simp [intOf]; omega
    · obtain rfl : k = n := by omega
      have hdone := Lib.hid (LimbsAt.done (by rw [hl]; exact hat))
      have hsm := hat.small
      have hyl := hat.len
      go_wp2_with (first | (at_builtin; refine wpList_append_fits _ rfl _ _ 28 rfl w.heap.size 70 i0 1 Tryd.underlying28 hi hz1 (w.heap.size + 1) k (k + 1) (u32s ys) rfl (hown1.alloc _) ⟨wr.heap.size, 0, none⟩ 1 1 [.int .u32 (c : Int)] rfl rfl (cell_one_new _ _ _) (ints_oneCell .u32 [_]) (by omega) ?_) | go_in)
      intro w2 hown2 hgrow2
      have hb2 : Ext w w2 := (hbr.alloc hbr.size _).grown hgrow2 (by have := hbr.size; simp; omega) (by simp)
      rw [u32s_snoc] at hown2
      clear hgrow2 hown1 hcell1
      go_wp2_with fail
      refine (trim_u (U32s.of_own hown2 (Nat.le_refl _) (by omega)) (Below.refl _ _) (hat.digs.snoc (by omega))).mono ?_
      rintro e w' ⟨v, rfl, hv, rfl, hob⟩
      rw [hdone.out] at hv
      go_wp2
      go_ret
      exact ⟨_, rfl, hv, hb2, (New.at_ (by omega)).same hob⟩

theorem limbs_n {v : Value} {n : Nat} {w : World} (hv : NatV w v n) : Calls Tryd.prog 68 #[.agg #[v]] w (GivesS w fun w' v => CanV w' v n) := by
  obtain ⟨xs, ⟨A, cap, rfl, h2, h3, h4⟩, hx, hl, rfl⟩ := hv
  exact limbs_any A _ cap xs w h4 hx h2 hl

end Go.Proofs.YtkjcbfaimonaoaaDoor
