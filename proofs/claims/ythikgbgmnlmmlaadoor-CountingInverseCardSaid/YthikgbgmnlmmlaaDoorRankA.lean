/- counting.RankSet: a set in order. -/
import Derived.Test.YthikgbgmnlmmlaaDoorPick
import Derived.Test.YthikgbgmnlmmlaaDoorRank
set_option linter.unusedVariables false
set_option linter.unusedSimpArgs false
set_option maxRecDepth 100000
namespace Go.Proofs.YthikgbgmnlmmlaaDoor
open Go.RowKit Num

def i64s (zs : List Int) : List Value := zs.map (Value.int .i64)
theorem i64s_get (zs : List Int) {k : Nat} (hk : k < zs.length) : (i64s zs)[k]? = some (.int .i64 (zs.getD k 0)) := by
  unfold i64s
  rw [List.getElem?_map, List.getElem?_eq_getElem hk]
  simp [hk]
theorem reads_i64 {w : World} {A : Option Addr} {zs : List Int} (h : Reads w 1 A zs.length (i64s zs)) {k : Nat} (hk : k < zs.length) : ∃ ad, A = some ad ∧ ad.block < w.heap.size ∧ w.cell? (ad.add k) = some (.int .i64 (zs.getD k 0)) := by
  obtain ⟨ad, u, h1, h2, h3, h4⟩ := h.at_ hk
  rw [i64s_get zs hk] at h3
  cases h3
  exact ⟨ad, h1, h2, h4⟩

def ints (cs : List Nat) : List Int := cs.map (fun c : Nat => (c : Int))
theorem ints_length (cs : List Nat) : (ints cs).length = cs.length := by simp [ints]
theorem ints_getD (cs : List Nat) (k : Nat) : (ints cs).getD k 0 = (cs.getD k 0 : Nat) := by
  unfold ints
  rcases Nat.lt_or_ge k cs.length with h | h
  · simp [List.getD, h]
  · simp [List.getD, h]

theorem Asc.drop {n : Nat} : ∀ {cs : List Nat} {lo k : Nat}, Asc n lo cs → k < cs.length → ∃ lo', (k = 0 → lo' = lo) ∧ (∀ j, k = j + 1 → lo' = cs.getD j 0 + 1) ∧ Asc n lo' (cs.drop k) := by
  intro cs
  induction cs with
  | nil => intro lo k _ hk; simp at hk
  | cons x rest ih =>
    intro lo k h hk
    cases k with
    | zero => exact ⟨lo, fun _ => rfl, fun j h => by omega, h⟩
    | succ k =>
      obtain ⟨h1, h2, h3⟩ := h
      obtain ⟨lo', a1, a2, a3⟩ := ih (lo := x + 1) (k := k) h3 (by simpa using hk)
      refine ⟨lo', by intro h; omega, ?_, by simpa using a3⟩
      intro j hj
      have : k = j := by omega
      subst this
      cases k with
      | zero => simpa using a1 rfl
      | succ k => simpa using a2 k rfl
theorem Asc.at_ {n : Nat} {cs : List Nat} {lo k : Nat} (h : Asc n lo cs) (hk : k < cs.length) : cs.getD k 0 < n ∧ (k = 0 → lo ≤ cs.getD k 0) ∧ ∀ j, k = j + 1 → cs.getD j 0 < cs.getD k 0 := by
  obtain ⟨lo', a1, a2, a3⟩ := h.drop hk
  obtain ⟨x, r, e⟩ : ∃ x r, cs.drop k = x :: r := ⟨_, _, List.drop_eq_getElem_cons hk⟩
  rw [List.drop_eq_getElem_cons hk] at a3
  obtain ⟨b1, b2, _⟩ := a3
  have e : cs.getD k 0 = cs[k] := by simp [List.getD, hk]
  rw [e]
  exact ⟨b2, fun h0 => by have := a1 h0; omega, fun j hj => by have := a2 j hj; omega⟩

theorem binomial_e {z k : Int} {m j : Nat} {w : World} (hz : z = (m : Int)) (hk : k = (j : Int)) (hm : m ≤ 300) :
    Calls Tryd.prog 41 #[.int .i64 z, .int .i64 k] w (GivesN w (chs m j)) := by
  subst hz hk
  by_cases h : m < j
  · rw [chs_gt _ _ h]; exact binomial_out hm (.inr (by omega))
  · exact binomial_in hm (by omega)

set_option maxHeartbeats 4000000 in
theorem crank_good {n cap : Nat} {A : Option Addr} {cs : List Nat} {w : World} (hn : n ≤ 64) (hr : Reads w 1 A (ints cs).length (i64s (ints cs))) (hasc : Asc n 0 cs) (hlen : cs.length ≤ 70368744177664) :
    Calls Tryd.prog 16 #[.int .i64 n, .slice A cs.length cap] w (GivesT w (rankFrom n 0 cs) 0) := by
  have HR := Lib.hid hr
  have HA := Lib.hid hasc
  have HT := Lib.hid (rankFrom_lt n cs 0 (Nat.zero_le _) hasc)
  clear hr hasc
  have htot : rankFrom n 0 cs = rankFrom n 0 cs := rfl
  generalize hq : rankFrom n 0 cs = total at *
  have HQ := Lib.hid hq
  clear hq htot
  go_enter Tryd.func16, Tryd.ntmps16
  go_wp2_with (go_at_call 40; (with_reducible refine (within_t (by omega)).mono ?_); rintro e w1 ⟨rfl, rfl⟩)
  have hx0 : Ext w (w.alloc (.cells #[.slice none 0 0] 25)) := ext_alloc (Below.refl _ _) _
  go_loopw [19] (fun iv wr => ∃ k : Nat, k ≤ cs.length ∧ iv = .int .i64 k ∧ wr = w.alloc (.cells #[.slice none 0 0] 25)) (fun iv _ => cs.length - (intOf iv).toNat)
  case atStart => exact ⟨0, Nat.zero_le _, rfl, rfl⟩
  case round =>
    obtain ⟨k, hk, rfl, rfl⟩ := hrel
    by_cases hkl : k < cs.length
    · obtain ⟨ad, rfl, hb, hc⟩ := reads_i64 (HR.out.below hx0) (k := k) (by rw [ints_length]; exact hkl)
      rw [ints_getD] at hc
      obtain ⟨a1, a2, a3⟩ := HA.out.at_ hkl
      cases k with
      | zero =>
        simp only [Addr.add, ↓reduceIte] at hc
        generalize cs.getD 0 0 = x at *
        have hb1 : decide ((n : Int) ≤ (x : Int)) = false := by simp; omega
        go_wp2
        go_roundw
        case rel => exact ⟨1, by omega, by go_num, by first | trivial | rfl⟩
        case measure => simp [intOf]; omega
      | succ j =>
        obtain ⟨ad', he, hb', hc'⟩ := reads_i64 (HR.out.below hx0) (k := j) (by rw [ints_length]; omega)
        injection he with he
        subst he
        rw [ints_getD] at hc'
        have hc2 : (w.alloc (.cells #[.slice none 0 0] 25)).cell? ⟨ad.block, ad.off + (j + 1), none⟩ = some (.int .i64 (cs.getD (j + 1) 0 : Nat)) := by simpa [Addr.add] using hc
        have a4 := a3 j rfl
        clear a2 a3
        generalize cs.getD (j + 1) 0 = x at *
        generalize cs.getD j 0 = y at *
        have hb1 : decide ((n : Int) ≤ (x : Int)) = false := by simp; omega
        have hb2 : decide ((x : Int) ≤ (y : Int)) = false := by simp; omega
        go_wp2
        go_roundw
        case rel => exact ⟨j + 2, by omega, by go_num, by first | trivial | rfl⟩
        case measure => simp [intOf]; omega
    · go_wp2_with (go_at_call 43; (with_reducible refine (cof_e (m := 0) (by omega) (by omega)).mono ?_); rintro e w1 ⟨A1, k1, c1, rfl, h1, x1, n1⟩; obtain ⟨z1, zf1⟩ := box_new x1)
      have hE := ext_new x1
      have hs1 : w.heap.size < w1.heap.size := by have := x1.size; simp at this; omega
      simp at n1
      clear x1 hx0
      go_loopw [49, 9] (fun iv lv wr => ∃ (i lo acc : Nat), i ≤ cs.length ∧ iv = .int .i64 i ∧ lv = .int .i64 lo ∧ lo ≤ n ∧ Asc n lo (cs.drop i) ∧ acc + rankFrom n lo (cs.drop i) = total ∧ OutB w1 w1.heap.size (w.heap.size + 1) acc wr)
        (fun iv _ _ => cs.length - (intOf iv).toNat)
      case atStart => exact ⟨0, 0, 0, Nat.zero_le _, rfl, rfl, Nat.zero_le _, HA.out, by rw [List.drop_zero, HQ.out]; omega, OutB.start h1 n1 _⟩
      case round =>
        obtain ⟨i, lo, acc, hi, rfl, rfl, hlo, hasc, hsum, hO⟩ := hrel
        by_cases hil : i < cs.length
        · obtain ⟨ad, rfl, hb, hc⟩ := reads_i64 (HR.out.below (hE.trans hO.ext)) (k := i) (by rw [ints_length]; exact hil)
          rw [ints_getD] at hc
          rw [List.drop_eq_getElem_cons hil] at hasc hsum
          have hgd : cs.getD i 0 = cs[i] := by simp [List.getD, hil]
          rw [hgd] at hc
          clear hgd
          generalize cs[i] = x at *
          have hrl : (cs.drop (i + 1)).length = cs.length - (i + 1) := List.length_drop
          have HRL := Lib.hid hrl
          rw [rankFrom] at hsum
          obtain ⟨s1, s2, s3⟩ := hasc
          rw [hrl] at hsum
          clear hrl
          obtain ⟨rest, hrest⟩ : ∃ r, r = cs.drop (i + 1) := ⟨_, rfl⟩
          rw [← hrest] at hsum s3
          have HREST := Lib.hid hrest
          clear hrest
          go_wp2
          go_loopw [12] (fun yv wq => ∃ (y acc : Nat), lo ≤ y ∧ y ≤ x ∧ yv = .int .i64 y ∧ acc + (inner n (cs.length - (i + 1)) y (x - y) + rankFrom n (x + 1) rest) = total ∧ OutB w1 w1.heap.size (w.heap.size + 1) acc wq) (fun yv _ => x - (intOf yv).toNat)
          case atStart => exact ⟨lo, acc, Nat.le_refl _, s1, rfl, hsum, hO⟩
          case round =>
            clear hsum hO hc hb
            obtain ⟨y, acc, hy1, hy2, rfl, hsum, hO⟩ := hrel
            by_cases hyx : y < x
            · obtain ⟨A, m, c, hc, hf, hC, hx, hN⟩ := hO
              obtain ⟨wq, hwq⟩ : ∃ wq : World, wq = wr := ⟨_, rfl⟩
              subst hwq
              have hb : w1.heap.size < wq.heap.size := World.block_lt_of_cell? _ _ hc
              obtain ⟨d, hd⟩ : ∃ d, x - y = d + 1 := ⟨x - y - 1, by omega⟩
              rw [hd, inner] at hsum
              have HD := Lib.hid hd
              have HS := Lib.hid (fun (w' : World) (h : Ext wq w') => (⟨(h.cell (p := ⟨w1.heap.size, 0, none⟩) hb).trans hc, (h.frozen (p := ⟨w1.heap.size, 0, none⟩) hb).trans hf⟩ : w'.cell? ⟨w1.heap.size, 0, none⟩ = some (.slice A m c) ∧ w'.frozen? ⟨w1.heap.size, 0, none⟩ = false))
              have HL := Lib.hid (show (limbsOf acc).length ≤ n + 1 from by have h1 := limbsOf_length_mono (show acc ≤ chs (n - 0) cs.length from by have := HT.out; omega); have h2 := chs_len n cs.length; rw [Nat.sub_zero] at h1; omega)
              have HO := Lib.hid (fun (w' : World) (h : Ext wq w') => CanV.nat (hC.below h) (by have := HL.out; unfold Fit; omega))
              have HM := Lib.hid (chs_len (n - 1 - y) (cs.length - (i + 1)))
              have HSUM := Lib.hid hsum
              have hw1 : IntKind.i64.wrap ((n : Int) - 1) = (n : Int) - 1 := wrap_in (by omega)
              have hw2 : IntKind.i64.wrap ((n : Int) - 1 - (y : Int)) = (n : Int) - 1 - (y : Int) := wrap_in (by omega)
              have hw3 : IntKind.i64.wrap ((cs.length : Int) - 1) = (cs.length : Int) - 1 := wrap_in (by omega)
              have hw4 : IntKind.i64.wrap ((cs.length : Int) - 1 - (i : Int)) = (cs.length : Int) - 1 - (i : Int) := wrap_in (by omega)
              clear hC hsum hd
              go_upto_region 16 with (fail)
              go_region_law (first
                | (go_simp; go_at_call 41; (with_reducible refine (binomial_e (m := n - 1 - y) (j := cs.length - (i + 1)) (by omega) (by omega) (by omega)).mono ?_); rintro e w5 ⟨A5, k5, c5, rfl, h5, x5, n5⟩; have e5 : Ext wq w5 := Ext.trans (by repeat first | assumption | exact Below.refl _ _ | refine ext_alloc ?_ _ | refine ext_drew ?_ | refine ext_set ?_ (by first | omega | (simp; done) | (simp; omega)) _) x5; obtain ⟨cc5, ff5⟩ := HS.out _ e5)
                | (go_simp; go_at_call 21; (with_reducible refine (add_n (HO.out _ (by repeat first | assumption | exact Below.refl _ _ | refine ext_alloc ?_ _ | refine ext_drew ?_ | refine ext_set ?_ (by first | omega | (simp; done) | (simp; omega)) _)) (NatV.below (CanV.nat h5 (by have := HM.out; unfold Fit; omega)) (by repeat first | assumption | exact Below.refl _ _ | refine ext_alloc ?_ _ | refine ext_drew ?_ | refine ext_set ?_ (by first | omega | (simp; done) | (simp; omega)) _)) (by have := HL.out; omega) (by have := HM.out; omega)).mono ?_); rintro e w6 ⟨A6, k6, c6, rfl, h6, x6, n6⟩; have e6 : Ext wq w6 := Ext.trans (by repeat first | assumption | exact Below.refl _ _ | refine ext_alloc ?_ _ | refine ext_drew ?_ | refine ext_set ?_ (by first | omega | (simp; done) | (simp; omega)) _) x6; obtain ⟨cc6, ff6⟩ := HS.out _ e6; have y6 := x6.size; have y5 := e5.size; (try simp at y6)))
              all_goals go_wp2
              all_goals go_roundw
              all_goals first
                | (exact ⟨y + 1, _, by omega, by omega, by go_num, by have h1 := HSUM.out; have h2 := HD.out; rw [show x - (y + 1) = d from by omega]; omega, OutB.set cc6 ff6 h6 (hx.trans e6) n6 (by omega) (by omega) (Nat.le_refl _)⟩)
                | (simp [intOf]; omega)
            · obtain rfl : y = x := by omega
              rw [Nat.sub_self, inner, Nat.zero_add] at hsum
              go_wp2
              go_roundw
              case rel => exact ⟨i + 1, y + 1, acc, by omega, by go_num, by go_num, by omega, by rw [← HREST.out]; exact s3, by rw [← HREST.out]; exact hsum, hO⟩
              case measure => simp [intOf]; omega
        · obtain rfl : i = cs.length := by omega
          obtain ⟨A, m, c, hc, hf, hC, hx, hN⟩ := hO
          rw [List.drop_length, rankFrom, Nat.add_zero] at hsum
          subst hsum
          have hc0 := (hx.cell (p := ⟨w.heap.size, 0, none⟩) hs1).trans z1
          have hf0 := (hx.frozen (p := ⟨w.heap.size, 0, none⟩) hs1).trans zf1
          clear z1 zf1
          go_wp2
          refine bodyPost_ret (v := .tuple #[.agg #[.slice A m c], .int .i64 0]) (by simp [results, Tryd.results16, go_sem, World.cell?_setCell_same _ _ _ hc0]) rfl ?_
          exact GivesT.box (hE.trans hx) hC hN

end Go.Proofs.YthikgbgmnlmmlaaDoor
