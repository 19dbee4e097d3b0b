/- Rows of naturals: ref03.of, ref03.row (Pascal's triangle). -/
import Derived.Test.YthikgbgmnlmmlaaDoorCount2
import Derived.Test.YthikgbgmnlmmlaaDoorRefArith
import Derived.Test.YthikgbgmnlmmlaaDoorRefMul
set_option linter.unusedVariables false
set_option linter.unusedSimpArgs false
set_option maxRecDepth 100000
namespace Go.Proofs.YthikgbgmnlmmlaaDoor
open Go.RowKit Num

theorem info_nat : (Tryd.prog.info? 25).map (fun i => (i.zero, i.size, i.bytes)) = some (some (.agg #[.slice none 0 0]), 1, 24) := by kernel_rfl

section
variable {e : TypeId} {base B : Nat} {w w' w1 : World} {v v' u : Value} {us : List Value} {ns : List Nat} {m : Nat}
theorem OwnN.lit (w : World) (hb : base ≤ w.heap.size) (hu : CanV w u m) (hn : New B u) : OwnN e base B (w.alloc (.cells #[u] e)) (.slice (some ⟨w.heap.size, 0, none⟩) 1 1) [u] [m] := by
  refine ⟨?_, fun k x y hx hy => ?_⟩
  · have := World.ownsRow_lit (base := base) (e := e) (size := 1) w #[u] 1 hb (by unfold maxLen; omega) rfl
    simpa using this
  · rw [List.getElem?_singleton] at hx hy
    split at hx
    · simp_all
      subst hx hy
      exact ⟨hu.alloc _, Far.new hu (New.at_ (Nat.le_refl _))⟩
    · cases hx
theorem OwnN.grow (h : OwnN e base B w v us ns) (hE : Ext w w1) (hu : CanV w1 u m) (hn : New w.heap.size u) (hB : B ≤ w.heap.size) (hown : w'.ownsRow base e 1 v' (ns.length + 1) (us ++ [u])) (hg : w1.grownBy w' v.ownBlock) (hw : v'.ownBlock = v.ownBlock ∨ New w1.heap.size v') :
    OwnN e base B w' v' (us ++ [u]) (ns ++ [m]) :=
  (h.ext hE).push hu (Far.of_new hn fun g hg => (h.1.lt g hg).2) (hn.mono hB) hown hg hw
theorem OwnN.grow_ext {W : World} (h : OwnN e W.heap.size B w v us ns) (hx : Ext W w) (hE : Ext w w1) (hg : w1.grownBy w' v.ownBlock) : Ext W w' :=
  Below.grown (Ext.trans hx hE) hg (by have := hx.size; have := hE.size; omega) fun k hk => (h.1.lt k hk).1
end

def pasc (n : Nat) : List Nat := (List.range (n + 1)).map (chs n)
theorem pasc_at {n k : Nat} (h : k ≤ n) : (pasc n)[k]? = some (chs n k) := by unfold pasc; rw [List.getElem?_map, List.getElem?_range (by omega)]; rfl
theorem pasc_length (n : Nat) : (pasc n).length = n + 1 := by simp [pasc]
def upto_ (f : Nat → Nat) (k : Nat) : List Nat := (List.range k).map f
theorem upto_succ (f : Nat → Nat) (k : Nat) : upto_ f (k + 1) = upto_ f k ++ [f k] := by simp [upto_, List.range_succ]
theorem upto_length (f : Nat → Nat) (k : Nat) : (upto_ f k).length = k := by simp [upto_]
theorem upto_at {f : Nat → Nat} {n k : Nat} (h : k < n) : (upto_ f n)[k]? = some (f k) := by unfold upto_; rw [List.getElem?_map, List.getElem?_range h]; rfl
theorem cell_one (W : World) (u : Value) (t : TypeId) : ∀ j x, [u][j]? = some x → (W.alloc (.cells #[u] t)).cell? ((⟨W.heap.size, 0, none⟩ : Addr).add j) = some x := by
  intro j x hx
  match j, hx with
  | 0, hx => simp at hx; subst hx; simp [Addr.add, go_sem]

theorem rcof_e {z : Int} {m : Nat} {w : World} (he : z = (m : Int)) (h1 : m < 9223372036854775808) :
    Calls Tryd.prog 52 #[.int .i64 z] w (GivesN w m) := by
  subst he
  go_enter Tryd.func52, Tryd.ntmps52
  go_wp2_with fail
  refine (rof_n (n := m) (by omega)).mono ?_
  rintro e w1 ⟨A1, k1, c1, rfl, h1, x1, n1⟩
  obtain ⟨z1, zf1⟩ := box_new x1
  have hE := ext_new x1
  simp at n1
  go_wp2
  refine bodyPost_ret (v := .agg #[.slice A1 k1 c1]) (by simp [results, Tryd.results52, go_sem, World.cell?_setCell_same _ _ _ z1]) rfl ?_
  obtain ⟨r1, r2, r3⟩ := res_box (u := .slice A1 k1 c1) hE h1 n1
  exact ⟨_, _, _, rfl, r1, r2, r3⟩

/-- A list of Naturals as an answer. -/
def GivesL (w : World) (ns : List Nat) (e : Ending) (w' : World) : Prop := ∃ A c, e = .returned (.slice A ns.length c) ∧ NatsV w.heap.size w' (.slice A ns.length c) ns ∧ Ext w w' ∧ New w.heap.size (.slice A ns.length c)

set_option maxHeartbeats 2000000 in
theorem rrow_n {n : Nat} {w : World} (hn : n ≤ 300) :
    Calls Tryd.prog 42 #[.int .i64 n] w (GivesL w (upto_ (chs n) (n + 1))) := by
  obtain ⟨i0, hi, hz0, hz1, hz2⟩ := info_parts info_nat
  go_enter Tryd.func42, Tryd.ntmps42
  go_wp2_with fail
  refine (rcof_e (m := 1) (by omega) (by omega)).mono ?_
  rintro e w1 ⟨A1, k1, c1, rfl, h1, x1, n1⟩
  have hl := OwnN.lit (e := 25) (base := w.heap.size) w1 x1.size h1 n1
  have hl2 := hl.nats
  have hx1 : Ext w (w1.alloc (.cells #[.slice A1 k1 c1] 25)) := ext_alloc x1 _
  clear hl n1 h1
  go_wp2
  generalize w1.alloc (.cells #[.slice A1 k1 c1] 25) = W1 at *
  go_loopw [3, 4] (fun ov iv wr => ∃ (i : Nat) (A : Option Addr) (c : Nat), i ≤ n ∧ iv = .int .i64 ((i : Int) + 1) ∧ ov = .slice A (i + 1) c ∧ NatsV w.heap.size wr (.slice A (i + 1) c) (upto_ (chs i) (i + 1)) ∧ Ext w wr ∧ New w.heap.size (.slice A (i + 1) c))
    (fun _ iv _ => n + 1 - (intOf iv).toNat)
  case atStart => exact ⟨0, _, 1, Nat.zero_le _, rfl, rfl, hl2, hx1, New.at_ x1.size⟩
  case round =>
    obtain ⟨i, A, c, hin, rfl, rfl, hv, hx, hnw⟩ := hrel
    by_cases hik : i < n
    · go_wp2_with fail
      refine (rcof_e (m := 1) (by omega) (by omega)).mono ?_
      rintro e w2 ⟨A2, k2, c2, rfl, h2, x2, n2⟩
      have hl := OwnN.lit (e := 25) (base := wr.heap.size) w2 x2.size h2 (n2.mono hx.size)
      have hx3 : Ext wr (w2.alloc (.cells #[.slice A2 k2 c2] 25)) := ext_alloc x2 _
      clear n2 h2
      go_wp2
      generalize w2.alloc (.cells #[.slice A2 k2 c2] 25) = W2 at *
      obtain ⟨wo, hwo⟩ : ∃ wo : World, wo = wr := ⟨_, rfl⟩
      subst hwo
      go_loopw [5, 6] (fun nv kv wr => ∃ (k : Nat) (us : List Value), 1 ≤ k ∧ k ≤ i + 1 ∧ kv = .int .i64 k ∧ OwnN 25 wo.heap.size w.heap.size wr nv us (upto_ (chs (i + 1)) k) ∧ Ext wo wr)
        (fun _ kv _ => i + 1 - (intOf kv).toNat)
      case atStart => exact ⟨1, _, Nat.le_refl _, by omega, rfl, hl, hx3⟩
      case round =>
        obtain ⟨k, us, hk1, hk2, rfl, hown, hxr⟩ := hrel
        have hlt := hown.1.lt
        have hUL := upto_length (chs (i + 1)) k
        by_cases hki : k < i + 1
        · obtain ⟨j, rfl⟩ : ∃ j, k = j + 1 := ⟨k - 1, by omega⟩
          obtain ⟨ad, A5, k5, c5, rfl, hb5, hc5, hn5, _⟩ := (hv.ext hxr).at_ (k := j) (upto_at (by omega))
          obtain ⟨ad', A6, k6, c6, he, hb6, hc6, hn6, _⟩ := (hv.ext hxr).at_ (k := j + 1) (upto_at (by omega))
          injection he with he
          subst he
          have HB1 := Lib.hid (chs_len i j)
          have HB2 := Lib.hid (chs_len i (j + 1))
          have HU := Lib.hid hUL
          have HN5 := Lib.hid (CanV.nat hn5 (by unfold Fit; have := HB1.out; omega))
          have HN6 := Lib.hid (CanV.nat hn6 (by unfold Fit; have := HB2.out; omega))
          have HOWN := Lib.hid hown
          have HLT := Lib.hid hlt
          clear hn5 hn6 hown hUL hlt
          have hw1 : IntKind.i64.wrap (j : Int) = (j : Int) := wrap_in (by omega)
          have hw2 : IntKind.i64.wrap ((j : Int) + 1) = (j : Int) + 1 := wrap_in (by omega)
          have hb1 : (j : Int) < (i : Int) + 1 := by omega
          have hb2 : (j : Int) < (i : Int) := by omega
          have hb3 : (0 : Int) ≤ (j : Int) + 1 := by omega
          have hc6' : wr.cell? ⟨ad.block, ad.off + (j + 1), none⟩ = some (.slice A6 k6 c6) := by simpa [Addr.add] using hc6
          go_upto_region 9 with (fail)
          go_region_law (first
            | (go_simp; go_at_call 44; (with_reducible refine (radd_n (NatV.below HN5.out (by repeat first | assumption | exact Below.refl _ _ | refine ext_alloc ?_ _ | refine ext_drew ?_ | refine ext_set ?_ (by first | omega | (simp; done) | (simp; omega)) _)) (NatV.below HN6.out (by repeat first | assumption | exact Below.refl _ _ | refine ext_alloc ?_ _ | refine ext_drew ?_ | refine ext_set ?_ (by first | omega | (simp; done) | (simp; omega)) _)) (by have := HB1.out; omega) (by have := HB2.out; omega)).mono ?_); rintro e w7 ⟨A7, k7, c7, rfl, h7, x7, n7⟩; have e7 : Ext wr w7 := Ext.trans (by repeat first | assumption | exact Below.refl _ _ | refine ext_alloc ?_ _ | refine ext_drew ?_ | refine ext_set ?_ (by first | omega | (simp; done) | (simp; omega)) _) x7)
            | (refine step_append_mine _ (by rfl) (.tmp 21) (.tmp 32) 51 (by rfl) wo.heap.size 25 i0 (.agg #[.slice none 0 0]) 1 24 Tryd.underlying51 hi hz0 hz1 hz2 rfl (by omega) _ _ _ (by rfl) (HOWN.out.ext (by repeat first | assumption | exact Below.refl _ _ | refine ext_alloc ?_ _ | refine ext_drew ?_ | refine ext_set ?_ (by first | omega | (simp; done) | (simp; omega)) _)).1 ⟨w7.heap.size, 0, none⟩ 1 1 [.slice A7 k7 c7] (by rfl) rfl (cell_one w7 _ _) (by simp [Value.oneCell']) (by rw [HU.out]; unfold maxLen; omega) (by rw [HU.out]; omega) (by have := hxr.size; have := e7.size; simp; omega) ?_
               intro v8 w8 ho8 hg8 hw8))
          all_goals go_wp2
          all_goals go_roundw
          all_goals first
            | (exact ⟨j + 2, us ++ [.slice A7 k7 c7], by omega, by omega, by go_num, by rw [upto_succ, chs_succ]; exact OwnN.grow HOWN.out (m := chs i j + chs i (j + 1)) (by repeat first | assumption | exact Below.refl _ _ | refine ext_alloc ?_ _ | refine ext_drew ?_ | refine ext_set ?_ (by first | omega | (simp; done) | (simp; omega)) _) (CanV.below h7 (by repeat first | assumption | exact Below.refl _ _ | refine ext_alloc ?_ _ | refine ext_drew ?_ | refine ext_set ?_ (by first | omega | (simp; done) | (simp; omega)) _)) (n7.mono (by first | omega | (simp; done) | (simp; omega))) (Nat.le_trans hx.size hxr.size) ho8 hg8 hw8, OwnN.grow_ext HOWN.out hxr (by repeat first | assumption | exact Below.refl _ _ | refine ext_alloc ?_ _ | refine ext_drew ?_ | refine ext_set ?_ (by first | omega | (simp; done) | (simp; omega)) _) hg8⟩)
            | (simp [intOf]; omega)
        · obtain rfl : k = i + 1 := by omega
          have HU := Lib.hid hUL
          have HOWN := Lib.hid hown
          clear hUL hown hlt
          go_wp2_with (first
            | (go_at_call 52; (with_reducible refine (rcof_e (m := 1) (by omega) (by omega)).mono ?_); rintro e w7 ⟨A7, k7, c7, rfl, h7, x7, n7⟩)
            | (at_builtin; refine wpList_append_mine _ (by rfl) (.tmp 34) (.tmp 36) 51 (by rfl) wo.heap.size 25 i0 (.agg #[.slice none 0 0]) 1 24 Tryd.underlying51 hi hz0 hz1 hz2 rfl (by omega) _ _ _ (by rfl) (HOWN.out.ext (ext_alloc x7 _)).1 ⟨w7.heap.size, 0, none⟩ 1 1 [.slice A7 k7 c7] (by rfl) rfl (cell_one w7 _ _) (by simp [Value.oneCell']) (by rw [HU.out]; unfold maxLen; omega) (by rw [HU.out]; omega) (by have := hxr.size; have := x7.size; simp; omega) ?_; intro v8 w8 ho8 hg8 hw8))
          have hO8 : OwnN 25 wo.heap.size w.heap.size w8 v8 (us ++ [.slice A7 k7 c7]) (upto_ (chs (i + 1)) (i + 1 + 1)) := by
            rw [upto_succ, chs_self]; exact OwnN.grow HOWN.out (by repeat first | assumption | exact Below.refl _ _ | refine ext_alloc ?_ _ | refine ext_drew ?_ | refine ext_set ?_ (by first | omega | (simp; done) | (simp; omega)) _) (CanV.below h7 (by repeat first | assumption | exact Below.refl _ _ | refine ext_alloc ?_ _ | refine ext_drew ?_ | refine ext_set ?_ (by first | omega | (simp; done) | (simp; omega)) _)) n7 (Nat.le_trans hx.size hxr.size) ho8 hg8 hw8
          have hx8 : Ext wo w8 := OwnN.grow_ext HOWN.out hxr (by repeat first | assumption | exact Below.refl _ _ | refine ext_alloc ?_ _ | refine ext_drew ?_ | refine ext_set ?_ (by first | omega | (simp; done) | (simp; omega)) _) hg8
          have hN8 := hO8.nats
          have hW8 : New w.heap.size v8 := fun b hb => Nat.le_trans hx.size (hO8.1.lt b hb).1
          obtain ⟨A9, c9, rfl, _, _⟩ := hN8.form
          clear ho8 hg8 hw8 HOWN hO8
          rw [upto_length] at hN8 hW8 ⊢
          go_wp2
          go_roundw
          case rel => exact ⟨i + 1, A9, c9, by omega, by go_num, rfl, hN8, hx.trans hx8, hW8⟩
          case measure => simp [intOf]; omega
    · obtain rfl : i = n := by omega
      go_wp2
      go_ret
      exact ⟨A, c, ret_slice (by simp [upto_length]), by rw [upto_length]; exact hv, hx, by rw [upto_length]; exact hnw⟩

end Go.Proofs.YthikgbgmnlmmlaaDoor
