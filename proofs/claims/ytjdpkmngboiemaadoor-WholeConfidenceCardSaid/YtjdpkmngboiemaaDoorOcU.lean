/- occupancy: share, AtMost, AtLeast. -/
import Derived.Test.YtjdpkmngboiemaaDoorOcT
set_option linter.unusedVariables false
set_option linter.unusedSimpArgs false
set_option maxRecDepth 100000
namespace Go.Proofs.YtjdpkmngboiemaaDoor
open Go.RowKit Num

theorem sum_take_succ (ns : List Nat) (k : Nat) {m : Nat} (h : ns[k]? = some m) : (ns.take (k + 1)).sum = (ns.take k).sum + m := by
  rw [List.take_add_one, h, List.sum_append]
  simp
theorem lsum_len {ns : List Nat} {L : Nat} (h : ∀ m ∈ ns, (limbsOf m).length ≤ L) : (limbsOf ns.sum).length ≤ (L + 1) * ns.length := by
  induction ns with
  | nil => show (limbsOf 0).length ≤ _; rw [limbsOf_zero]; exact Nat.zero_le _
  | cons m l ih =>
    have h1 := limbsOf_length_add m l.sum
    have h2 := h m (List.mem_cons_self ..)
    have h3 := ih fun x hx => h x (List.mem_cons_of_mem _ hx)
    rw [List.sum_cons, List.length_cons, Nat.mul_succ]
    omega
theorem sum_len_take {ns : List Nat} {L : Nat} (h : ∀ m ∈ ns, (limbsOf m).length ≤ L) (k : Nat) : (limbsOf (ns.take k).sum).length ≤ (L + 1) * ns.length :=
  Nat.le_trans (lsum_len fun m hm => h m (List.mem_of_mem_take hm)) (Nat.mul_le_mul_left _ (List.length_take_le' _ _))
theorem sum_upto (f : Nat → Nat) (n k : Nat) (h : k ≤ n) : ((upto_ f n).take k).sum = sumTo f k := by
  unfold upto_
  rw [← List.map_take, List.take_range, Nat.min_eq_left h]
  clear h
  induction k with
  | zero => rfl
  | succ k ih => rw [List.range_succ, List.map_append, List.sum_append, ih, sumTo_succ]; simp
theorem sum_upto_drop (f : Nat → Nat) (n k : Nat) (h : k ≤ n) : ((upto_ f n).drop k).sum + sumTo f k = sumTo f n := by
  have h2 := sum_upto f n n (Nat.le_refl _)
  rw [List.take_of_length_le (by rw [upto_length]; exact Nat.le_refl _)] at h2
  rw [← sum_upto f n k h, ← h2, Nat.add_comm, ← List.sum_append, List.take_append_drop]
theorem NatsV.take_ {B : Nat} {w : World} {A : Option Addr} {n c k : Nat} {ns : List Nat} (h : NatsV B w (.slice A n c) ns) (hk : k ≤ n) : NatsV B w (.slice A k c) (ns.take k) := by
  obtain ⟨A', cap, us, e, h2, h3, h4, h5⟩ := h
  injection e with e1 e2 e3
  subst e1 e2 e3
  have hl : (ns.take k).length = k := by rw [List.length_take]; omega
  refine ⟨_, _, us.take k, by rw [hl], by omega, h3, by rw [hl]; exact h4.take_ hk, fun j u m hu hm => ?_⟩
  rw [List.getElem?_take] at hu hm
  split at hu
  · rename_i hj
    rw [if_pos hj] at hm
    exact h5 j u m hu hm
  · cases hu
theorem NatsV.drop_ {B : Nat} {w : World} {A : Option Addr} {n c k : Nat} {ns : List Nat} (h : NatsV B w (.slice A n c) ns) (hk : k ≤ n) : NatsV B w (.slice (if c = k then A else A.map (·.add k)) (n - k) (c - k)) (ns.drop k) := by
  obtain ⟨A', cap, us, e, h2, h3, h4, h5⟩ := h
  injection e with e1 e2 e3
  subst e1 e2 e3
  have hl : (ns.drop k).length = ns.length - k := List.length_drop ..
  have hu0 := h4.1
  refine ⟨_, _, us.drop k, by rw [hl], by omega, by omega, ⟨by rw [List.length_drop]; omega, fun hn => ?_⟩, fun j u m hu hm => ?_⟩
  · obtain ⟨ad, rfl, hb, hc⟩ := h4.2 (by omega)
    rw [if_neg (by omega)]
    refine ⟨ad.add k, rfl, by rw [block_of_add]; exact hb, fun j u hu => ?_⟩
    rw [add_of_add]
    exact hc _ u (by rw [← hu, List.getElem?_drop])
  · rw [List.getElem?_drop] at hu hm
    exact h5 _ u m hu hm

set_option maxHeartbeats 4000000 in
theorem oshare {ns : List Nat} {m B L : Nat} {v s : Value} {w : World} (hv : NatsV B w v ns) (hs : NatV w s m) (hL : ∀ x ∈ ns, (limbsOf x).length ≤ L) (hm : (limbsOf m).length ≤ L) (hn : ns.length ≤ 100) (hL2 : L ≤ 100) :
    Calls Tryd.prog 74 #[v, .agg #[s]] w (GivesF w (frac false ns.sum m)) := by
  obtain ⟨A, c, rfl, hc1, hc2⟩ := hv.form
  have HV := Lib.hid (fun (w' : World) (h : Ext w w') => hv.ext h)
  have HS := Lib.hid (fun (w' : World) (h : Ext w w') => hs.below h)
  have HM := Lib.hid hm
  have hmul : (L + 1) * ns.length ≤ 101 * 100 := Nat.mul_le_mul (by omega) (by omega)
  have HT := Lib.hid (fun k => Nat.le_trans (sum_len_take (ns := ns) (L := L) hL k) hmul)
  have HL := Lib.hid hL
  clear hv hs hm hL hmul
  go_enter Tryd.func74, Tryd.ntmps74
  go_upto_region 1 with (fail)
  have hB0 : ((w.alloc (.cells #[s] 25)).alloc (.cells #[.bool false, .slice none 0 0, .slice none 0 0] 27)).cell? ⟨w.heap.size, 0, none⟩ = some (s) := by simp [go_sem]
  have hB1 := FBox.new (w.alloc (.cells #[s] 25)) (.bool false) (.slice none 0 0) (.slice none 0 0) 27
  rw [show (w.alloc (.cells #[s] 25)).heap.size = w.heap.size + 1 from by simp] at hB1
  have x0 : Ext w ((w.alloc (.cells #[s] 25)).alloc (.cells #[.bool false, .slice none 0 0, .slice none 0 0] 27)) := ext_alloc (ext_alloc (Below.refl _ _) _) _
  have hs0 : w.heap.size + 1 + 1 ≤ ((w.alloc (.cells #[s] 25)).alloc (.cells #[.bool false, .slice none 0 0, .slice none 0 0] 27)).heap.size := by simp
  generalize ((w.alloc (.cells #[s] 25)).alloc (.cells #[.bool false, .slice none 0 0, .slice none 0 0] 27)) = W0 at *
  have HB0 := Lib.hid (fun (w' : World) (h : Ext W0 w') => ((h.cell (p := ⟨w.heap.size, 0, none⟩) (World.block_lt_of_cell? _ _ hB0)).trans hB0 : w'.cell? ⟨w.heap.size, 0, none⟩ = some (s)))
  have c00 := hB0
  clear hB0
  have HF := Lib.hid (fun (w' : World) (h : Ext W0 w') => hB1.below h)
  obtain ⟨r0, r1, r2, g0, g1, g2⟩ := hB1
  have HE := Lib.hid x0
  clear x0
  have f0 : Ext W0 W0 := Below.refl _ _
  go_wp2_with fail
  refine (of_n (n := 0) (by omega)).mono ?_
  rintro e w6 ⟨A6, k6, c6, rfl, h6, y6, n6⟩
  have hb6 : (w6.alloc (.cells #[.slice A6 k6 c6] 25)).cell? ⟨w6.heap.size, 0, none⟩ = some (.slice A6 k6 c6) := by simp [go_sem]
  have hf6 : (w6.alloc (.cells #[.slice A6 k6 c6] 25)).frozen? ⟨w6.heap.size, 0, none⟩ = false := by simp [go_sem]
  have hO : OutB W0 w6.heap.size W0.heap.size 0 (w6.alloc (.cells #[.slice A6 k6 c6] 25)) := ⟨A6, k6, c6, hb6, hf6, h6.alloc _, ext_alloc y6 _, n6⟩
  have hlo : W0.heap.size ≤ w6.heap.size := y6.size
  have hlt : w6.heap.size < (w6.alloc (.cells #[.slice A6 k6 c6] 25)).heap.size := by simp
  clear hb6 hf6 h6 y6 n6
  go_wp2
  generalize w6.alloc (.cells #[.slice A6 k6 c6] 25) = W1 at *
  generalize w6.heap.size = b6 at *
  go_loopw [11] (fun iv wr => ∃ k : Nat, k ≤ ns.length ∧ iv = .int .i64 k ∧ OutB W0 b6 W0.heap.size (ns.take k).sum wr ∧ b6 < wr.heap.size) (fun iv _ => ns.length - (intOf iv).toNat)
  case atStart => exact ⟨0, Nat.zero_le _, rfl, by simpa using hO, hlt⟩
  case round =>
    clear hO hlt
    obtain ⟨k, hk, rfl, ⟨MA, mk, ml, hc, hf, hC, hx, hN⟩, hlt⟩ := hrel
    by_cases hkn : k < ns.length
    · obtain ⟨x, hx0⟩ : ∃ x, ns[k]? = some x := ⟨_, List.getElem?_eq_getElem hkn⟩
      obtain ⟨ab, ao, A5, k5, c5, rfl, hb5, hc5, hn5, _⟩ := (HV.out _ (HE.out.trans hx)).pl hx0
      have HX := Lib.hid hx0
      have HCC := Lib.hid (fun (w' : World) (h : Ext wr w') => (⟨(h.cell (p := ⟨b6, 0, none⟩) hlt).trans hc, (h.frozen (p := ⟨b6, 0, none⟩) hlt).trans hf⟩ : w'.cell? ⟨b6, 0, none⟩ = some (.slice MA mk ml) ∧ w'.frozen? ⟨b6, 0, none⟩ = false))
      have hxl := HL.out x (List.mem_of_getElem? hx0)
      have HC := Lib.hid (fun (w' : World) (h : Ext wr w') => CanV.nat (hC.below h) (by unfold Fit; have := HT.out k; omega))
      have HN5 := Lib.hid (fun (w' : World) (h : Ext wr w') => CanV.nat (hn5.below h) (by unfold Fit; omega))
      have hi1 : (0 : Int) ≤ (k : Int) := by omega
      have hi2 : (k : Int) < (ns.length : Int) := by omega
      clear hx0 hC hn5
      go_upto_region 5 with (fail)
      have hq : (wr.alloc (.cells #[.slice A5 k5 c5] 25)).cell? ⟨wr.heap.size, 0, none⟩ = some (.slice A5 k5 c5) := by simp [go_sem]
      have X7 : Ext wr (wr.alloc (.cells #[.slice A5 k5 c5] 25)) := ext_alloc (Below.refl _ _) _
      generalize wr.alloc (.cells #[.slice A5 k5 c5] 25) = W7 at *
      obtain ⟨hc, hf⟩ := HCC.out _ X7
      go_wp2_with (go_at_call 39; (with_reducible refine (add_n (HC.out _ X7) (HN5.out _ X7) (by have := HT.out k; omega) (by omega)).mono ?_); rintro _ s2 ⟨A8, k8, c8, rfl, h8, z2, n8⟩; have f2 : Ext wr s2 := X7.trans z2; obtain ⟨hc, hf⟩ := HCC.out _ f2)
      have hz := X7.size
      have hz2 := f2.size
      have hz0 := hx.size
      go_roundw
      all_goals first
        | exact ⟨k + 1, by omega, by go_num, by rw [sum_take_succ ns k HX.out]; exact OutB.set hc hf h8 (hx.trans f2) n8 (by omega) (by omega) hlo, by simpa using Nat.lt_of_lt_of_le hlt hz2⟩
        | (simp [intOf]; omega)
    · obtain rfl : k = ns.length := by omega
      rw [List.take_of_length_le (Nat.le_refl _)] at hC
      have HTT := Lib.hid (HT.out ns.length)
      rw [List.take_of_length_le (Nat.le_refl _)] at HTT
      have hCN := CanV.nat hC (by unfold Fit; have := HTT.out; omega)
      have c00 := HB0.out _ hx
      obtain ⟨r0, r1, r2, g0, g1, g2⟩ := HF.out _ hx
      clear hC
      go_wp2_with (go_at_call 38; (with_reducible refine (norm_f (L := 20000) (AnyF.mk (b := false) hCN (HS.out _ (HE.out.trans hx)) (by have := HTT.out; omega) (by have := HM.out; omega)) (by omega)).mono ?_); rintro _ s6 ⟨b6', A6', k6', c6', B6', l6', d6', rfl, h6, z6, n6, m6⟩; obtain ⟨r0, r1, r2, g0, g1, g2⟩ := HF.out _ (hx.trans z6))
      obtain ⟨q0, q1, q2⟩ := set3 r0 r1 r2 (.bool b6') (.slice A6' k6' c6') (.slice B6' l6' d6')
      refine bodyPost_ret (v := .agg #[.bool b6', .slice A6' k6' c6', .slice B6' l6' d6']) (by simp [results, Tryd.results74, go_sem, q0, q1, q2]) rfl ?_
      exact GivesF.box (B := w.heap.size + 1) (HE.out.trans (hx.trans z6)) h6 (n6.mono (by have := hx.size; omega)) (m6.mono (by have := hx.size; omega)) (by omega)

end Go.Proofs.YtjdpkmngboiemaaDoor
