/- divide. -/
import Derived.Test.YtkjcbfaimonaoaaDoorShort
import Derived.Test.YtkjcbfaimonaoaaDoorApp
import Derived.Test.YtkjcbfaimonaoaaDoorDivNum
import Derived.Deep.DeepCutAuto
set_option linter.unusedVariables false
set_option linter.unusedSimpArgs false
set_option maxRecDepth 100000
namespace Go.Proofs.YtkjcbfaimonaoaaDoor
open Go.RowKit Num

theorem add_nought (a : Addr) : a.add 0 = a := by simp [Addr.add]

theorem U32s.cell {w : World} {A : Option Addr} {n cap : Nat} {xs : List Nat} (h : U32s w (.slice A n cap) xs) {k : Nat} (hk : k < xs.length) :
    ∃ ad, A = some ad ∧ ad.block < w.heap.size ∧ w.cell? (ad.add k) = some (.int .u32 (xs.getD k 0 : Nat)) := by
  obtain ⟨A', cap', e, h2, h3, h4⟩ := h
  injection e with e1 e2 e3
  subst e1
  obtain ⟨ad, u, rfl, hb, hu, hc⟩ := h4.at_ (k := k) hk
  rw [u32s_get _ _ hk] at hu
  cases hu
  exact ⟨ad, rfl, hb, hc⟩

theorem cmpN_neg {a b : Nat} : cmpN a b < 0 ↔ a < b := by unfold cmpN; split <;> (try split) <;> omega
theorem cmpN_pos {a b : Nat} : 0 < cmpN a b ↔ b < a := by unfold cmpN; split <;> (try split) <;> omega

/-- What 'divide' answers. -/
def DivR (w : World) (B a b : Nat) (e : Ending) (w' : World) : Prop := ∃ q r, e = .returned (.tuple #[q, r]) ∧ CanV w' q (a / b) ∧ CanV w' r (a % b) ∧ Ext w w' ∧ New B q ∧ New B r

set_option maxHeartbeats 400000 in
theorem divide_small {u v : Value} {a b : Nat} {w : World} {B : Nat} (hn : New B u) (hu : CanV w u a) (hv : CanV w v b) (hlt : a < b) :
    Calls Tryd.prog 92 #[u, v] w (DivR w B a b) := by
  have hc : cmpN a b < 0 := cmpN_neg.2 hlt
  go_enter Tryd.func92, Tryd.ntmps92
  go_wp2_with fail
  refine (compare_any hu hv).mono ?_
  rintro e w' ⟨rfl, hx⟩
  go_wp2
  go_ret2
  refine ⟨_, _, rfl, ?_, ?_, hx, New.nil_ _, hn⟩
  · rw [Nat.div_eq_of_lt hlt]; exact CanV.nil_ _
  · rw [Nat.mod_eq_of_lt hlt]; exact hu.below hx

theorem limbsOf_one {d : Nat} (h0 : 0 < d) (h1 : d < 1000000000) : limbsOf d = [d] := by
  rw [limbsOf_pos (by omega), Nat.mod_eq_of_lt h1, Nat.div_eq_of_lt h1, limbsOf_zero]

theorem U32s.lit (w : World) (x : Nat) : U32s (w.alloc (.cells #[.int .u32 (x : Int)] 70)) (.slice (some ⟨w.heap.size, 0, none⟩) 1 1) [x] :=
  U32s.of_own (World.ownsRow_lit (base := w.heap.size) (size := 1) w #[.int .u32 (x : Int)] 1 (Nat.le_refl _) (by unfold maxLen; omega) rfl) (Nat.le_refl _) (by omega)

set_option maxHeartbeats 1000000 in
theorem divide_one {u v : Value} {a b : Nat} {w : World} {B0 : Nat} (hB0 : B0 ≤ w.heap.size) (hu : CanV w u a) (hv : CanV w v b) (hge : b ≤ a) (hb0 : 0 < b) (hb1 : b < 1000000000) (hl : (limbsOf a).length ≤ 8796093022208) :
    Calls Tryd.prog 92 #[u, v] w (DivR w B0 a b) := by
  have hc : 0 ≤ cmpN a b := by have := @cmpN_neg a b; omega
  have hv0 := hv
  unfold CanV at hv0
  rw [limbsOf_one hb0 hb1] at hv0
  obtain ⟨B, cap, rfl, h2, h3, h4⟩ := id hv0
  obtain ⟨ad, rfl, hb, hcell⟩ := hv0.cell (k := 0) (by simp)
  simp only [List.getD_cons_zero, add_nought] at hcell
  simp only [List.length_cons, List.length_nil, Nat.zero_add] at hu hv h2 ⊢
  go_enter Tryd.func92, Tryd.ntmps92
  go_wp2_with fail
  refine (compare_any hu hv).mono ?_
  rintro e w1 ⟨rfl, hx⟩
  have hcell1 : w1.cell? ad = some (.int .u32 (b : Int)) := by rw [hx.cell hb]; exact hcell
  generalize cmpN a b = c at *
  go_wp2_with fail
  refine (short_any (hu.below hx) hb0 hb1 hl).mono ?_
  rintro e w2 ⟨q, rfl, hq, hx2, hnq⟩
  go_wp2_with fail
  refine (trim_u (U32s.lit w2 (a % b)) (Below.refl _ _) (by intro x hx; simp at hx; have := Nat.mod_lt a hb0; omega)).mono ?_
  rintro e w' ⟨r, rfl, hr, rfl, hor⟩
  go_wp2
  go_ret2
  simp only [val, Nat.mul_zero, Nat.add_zero] at hr
  exact ⟨_, _, rfl, hq.alloc _, hr, (hx.trans (Ext.trans hx2 ((Below.refl _ _).alloc (Nat.le_refl _) _))), hnq.mono (by have := hx.size; omega), (New.at_ (by have := hx.size; have := hx2.size; omega)).same hor⟩


theorem U32s.setCell {w : World} {A : Option Addr} {n c : Nat} {xs : List Nat} (h : U32s w (.slice A n c) xs) {p : Addr} (hne : ∀ ad, A = some ad → ad.block ≠ p.block) (u : Value) : U32s (w.setCell p u) (.slice A n c) xs := by
  obtain ⟨A', cap', e, h2, h3, h4⟩ := h
  injection e with e1 e2 e3
  subst e1
  refine ⟨A, cap', by rw [e2, e3], h2, h3, h4.1, fun hn => ?_⟩
  obtain ⟨ad, rfl, hb, hc⟩ := h4.2 hn
  exact ⟨ad, rfl, by simpa using hb, fun j v hv => (World.cell?_setCell_other w p _ u (fun e => hne ad rfl (by rw [e, block_of_add]))).trans (hc j v hv)⟩

theorem U32s.setNew {w : World} {v : Value} {xs : List Nat} (h : U32s w v xs) {B : Nat} (hn : New B v) {p : Addr} (hp : p.block < B) (u : Value) : U32s (w.setCell p u) v xs := by
  obtain ⟨A, cap, rfl, h2, h3, h4⟩ := id h
  exact h.setCell (fun ad e => by subst e; have := hn ad.block rfl; omega) u

theorem U32s.from_ {w : World} {A : Option Addr} {n c k : Nat} {xs : List Nat} (h : U32s w (.slice A n c) xs) (hk : k ≤ n) :
    U32s w (.slice (if c = k then A else A.map (·.add k)) (n - k) (c - k)) (xs.drop k) := by
  obtain ⟨A', cap', e, h2, h3, h4⟩ := h
  injection e with e1 e2 e3
  subst e1
  subst e2
  subst e3
  refine ⟨_, c - k, by rw [List.length_drop], by rw [List.length_drop]; omega, by omega, ?_⟩
  refine ⟨by simp [u32s], fun hn => ?_⟩
  rw [List.length_drop] at hn
  obtain ⟨ad, rfl, hb, hc⟩ := h4.2 (by omega)
  rw [if_neg (by omega)]
  refine ⟨ad.add k, rfl, by rw [block_of_add]; exact hb, fun j u hu => ?_⟩
  rw [add_of_add]
  exact hc _ u (by rw [← hu, ← u32s_drop, List.getElem?_drop])

theorem U32s.upto {w : World} {A : Option Addr} {n c k : Nat} {xs : List Nat} (h : U32s w (.slice A n c) xs) (hk : k ≤ n) : Reads w 1 A k (u32s (xs.take k)) := by
  obtain ⟨A', cap', e, h2, h3, h4⟩ := h
  injection e with e1 e2 e3
  subst e1
  rw [← u32s_take]
  exact h4.take_ (by omega)

set_option maxHeartbeats 4000000 in
theorem divide_many {u v : Value} {a b : Nat} {w : World} {B0 : Nat} (hB0 : B0 ≤ w.heap.size) (hu : CanV w u a) (hv : CanV w v b) (hge : b ≤ a) (hb2 : 2 ≤ (limbsOf b).length) (hl : (limbsOf a).length ≤ 2199023255552) :
    Calls Tryd.prog 92 #[u, v] w (DivR w B0 a b) := by
  obtain ⟨i0, hi, hz0, hz1, hz2⟩ := info_parts info_u32
  have hb0 : b ≠ 0 := by rintro rfl; rw [limbsOf_zero] at hb2; simp at hb2
  have hc : 0 ≤ cmpN a b := by have := @cmpN_neg a b; omega
  obtain ⟨lb, t, elb, ht0, ht1, hbt1, hbt2⟩ := top_bounds hb0
  have hlb := limbsOf_length_mono hge
  have hv0 := hv
  unfold CanV at hv0
  rw [elb] at hv0 hb2 hlb
  simp only [List.length_append, List.length_cons, List.length_nil, Nat.zero_add] at hb2 hlb
  obtain ⟨B, cap, hvv, h2, h3, h4⟩ := id hv0
  simp only [List.length_append, List.length_cons, List.length_nil, Nat.zero_add] at hvv h2
  subst hvv
  obtain ⟨ad, rfl, hb, hcell⟩ := hv0.cell (k := lb.length) (by simp)
  rw [show (lb ++ [t]).getD lb.length 0 = t from by simp [List.getD]] at hcell
  have hs0 : 0 < 1000000000 / (t + 1) := Nat.div_pos (by omega) (by omega)
  have hs1 : 1000000000 / (t + 1) < 1000000000 := Nat.div_lt_self (by omega) (by omega)
  go_enter Tryd.func92, Tryd.ntmps92
  go_wp2_with fail
  refine (compare_any hu hv).mono ?_
  rintro e w1 ⟨rfl, hx1⟩
  have hcell1 : w1.cell? (ad.add lb.length) = some (.int .u32 (t : Int)) := by rw [hx1.cell (by rw [block_of_add]; exact hb)]; exact hcell
  generalize cmpN a b = c at *
  go_wp2_with fail
  have es : (1000000000 / ((t : Int) + 1)) = ((1000000000 / (t + 1) : Nat) : Int) := by simp
  rw [es]
  clear es
  have hst : b * (1000000000 / (t + 1)) < 1000000000 ^ (lb.length + 1) := by
    have e1 : b * (1000000000 / (t + 1)) < 1000000000 ^ lb.length * (t + 1) * (1000000000 / (t + 1)) := Nat.mul_lt_mul_of_pos_right hbt2 hs0
    have e2 : (t + 1) * (1000000000 / (t + 1)) ≤ 1000000000 := Nat.mul_div_le _ _
    have e3 := Nat.mul_le_mul_left (1000000000 ^ lb.length) e2
    rw [Nat.mul_assoc] at e1
    rw [Nat.pow_succ]
    omega
  have hcs : CanV (w1.alloc (.cells #[.int .u32 ((1000000000 / (t + 1) : Nat) : Int)] 70)) (.slice (some ⟨w1.heap.size, 0, none⟩) 1 1) (1000000000 / (t + 1)) := by
    unfold CanV
    rw [limbsOf_one hs0 hs1]
    exact U32s.lit w1 _
  have hxs : Ext w1 (w1.alloc (.cells #[.int .u32 ((1000000000 / (t + 1) : Nat) : Int)] 70)) := (Below.refl _ _).alloc (Nat.le_refl _) _
  generalize 1000000000 / (t + 1) = s at *
  generalize hW1 : w1.alloc (.cells #[.int .u32 (s : Int)] 70) = W1 at *
  have hszW : W1.heap.size = w1.heap.size + 1 := by rw [← hW1]; simp
  have hcsc : W1.cell? ⟨w1.heap.size, 0, none⟩ = some (.int .u32 (s : Int)) := by rw [← hW1]; simp
  have HZ := Lib.hid hszW
  clear hW1 hszW
  have hxW : Ext w W1 := hx1.trans hxs
  refine (times_any (hu.below hxW) hcs (by rw [limbsOf_one hs0 hs1]; simp; omega)).mono ?_
  rintro e w2 ⟨pu, rfl, hpu, hx2, hnu⟩
  go_wp2_with fail
  refine (times_any (hv.below (hxW.trans hx2)) (hcs.below hx2) (by rw [limbsOf_one hs0 hs1, elb]; simp; omega)).mono ?_
  rintro e w3 ⟨pv, rfl, hpv, hx3, hnv⟩
  have hpu3 := hpu.below hx3
  have hcs3 := hcs.below (hx2.trans hx3)
  have hcsc3 : w3.cell? ⟨w1.heap.size, 0, none⟩ = some (.int .u32 (s : Int)) := by rw [(hx2.trans hx3).cell (by have := HZ.out; show w1.heap.size < _; omega)]; exact hcsc
  have hx03 : Ext w w3 := hxW.trans (hx2.trans hx3)
  have hw13 : w1.heap.size < w3.heap.size := by have := HZ.out; have := (hx2.trans hx3).size; omega
  have hVU : b * s ≤ a * s := Nat.mul_le_mul_right _ hge
  have hV0 : b * s ≠ 0 := Nat.mul_ne_zero hb0 (by omega)
  have hdm : a * s / (b * s) = a / b ∧ a * s % (b * s) = a % b * s := ⟨Nat.mul_div_mul_right _ _ hs0, Nat.mul_mod_mul_right _ _ _⟩
  have HDM := Lib.hid hdm
  have hUl : (limbsOf (a * s)).length ≤ 2199023255553 := by
    have := limbsOf_length_mul a s
    rw [limbsOf_one hs0 hs1] at this
    simp only [List.length_cons, List.length_nil, Nat.zero_add] at this
    omega
  have hrl0 : (limbsOf (a % b * s)).length ≤ 2199023255553 := by
    have e1 := limbsOf_length_mul (a % b) s
    have e2 := limbsOf_length_mono (Nat.mod_le a b)
    rw [limbsOf_one hs0 hs1] at e1
    simp only [List.length_cons, List.length_nil, Nat.zero_add] at e1
    omega
  have HRL := Lib.hid hrl0
  clear hrl0
  have hVUl := limbsOf_length_mono hVU
  obtain ⟨lv, tv, elv, htv0, htv1, hbv1, hbv2⟩ := top_bounds hV0
  have hpv0 := hpv
  unfold CanV at hpv0 hpu3
  rw [elv] at hpv0 hVUl
  simp only [List.length_append, List.length_cons, List.length_nil, Nat.zero_add] at hVUl
  have hdU := limbsOf_digs (a * s)
  have hvU := val_limbsOf (a * s)
  generalize limbsOf (a * s) = us0 at *
  generalize a * s = U at *
  have hVpos : 0 < b * s := by omega
  clear hdm hst hVU hV0 hlb
  generalize b * s = V at *
  obtain ⟨Au, cu, rfl, ku2, ku3, ku4⟩ := id hpu3
  obtain ⟨Av, cv, hpvv, kv2, kv3, kv4⟩ := id hpv0
  simp only [List.length_append, List.length_cons, List.length_nil, Nat.zero_add] at hpvv kv2
  subst hpvv
  have hAu : ∀ ad, Au = some ad → 0 < us0.length → ad.block < w3.heap.size := by
    intro ad h h0
    obtain ⟨ad', e, hb, _⟩ := ku4.2 h0
    rw [h] at e
    injection e with e
    subst e
    exact hb
  have hAu' : ∀ ad, Au = some ad → ad.block ≠ w3.heap.size := fun ad h => by have := hAu ad h (by omega); omega
  go_wp2_with (first | (at_make; refine wpList_make_full _ rfl _ _ 28 rfl w3.heap.size 70 i0 (.int .u32 0) 1 Tryd.underlying28 hi hz0 hz1 _ _ _ _ (us0.length - lv.length) rfl rfl (by omega) (by omega) ?b1 ?b2 ?b3 ?_) | fail)
  case b1 => rw [hz2]; omega
  case b2 => unfold maxLen; omega
  case b3 => exact Nat.le_refl _
  intro w4 hown hgrow
  rw [u32s_replicate] at hown
  have hb4 : Ext w3 w4 := (Below.refl _ _).grown hgrow (Nat.le_refl _) (by simp)
  clear hgrow
  obtain ⟨M, hM⟩ : ∃ M, M = us0.length - lv.length := ⟨_, rfl⟩
  rw [← hM] at hown ⊢
  have hMp : 0 < M := by omega
  have hMl : M + lv.length = us0.length := by omega
  have hDs : DivAt U V M M us0 (List.replicate M 0) := by
    refine DivAt.start hdU hvU (by omega) ?_
    have e1 := val_lt (hdU.drop M)
    rw [List.length_drop, show us0.length - M = lv.length from by omega] at e1
    have e2 : 1000000000 ^ lv.length ≤ 1000000000 ^ lv.length * tv := Nat.le_mul_of_pos_right _ (by omega)
    omega
  have HM := Lib.hid hMl
  clear hMl hM
  go_wp2
  go_loopw [9, 12] (fun uv jv wr => ∃ (k : Nat) (us qs : List Nat) (A : Option Addr) (c : Nat), k ≤ M ∧ jv = .int .i64 ((k : Int) - 1) ∧ uv = .slice A us.length c ∧ U32s wr (.slice A us.length c) us ∧ (∀ ad, A = some ad → ad.block ≠ w3.heap.size) ∧
      wr.ownsRow w3.heap.size 70 1 (.slice (some ⟨w3.heap.size, 0, none⟩) M M) M (u32s qs) ∧ Ext w3 wr ∧ DivAt U V M k us qs ∧ us.length ≤ us0.length)
    (fun _ jv _ => (intOf jv + 1).toNat)
  case atStart => exact ⟨M, us0, _, Au, cu, Nat.le_refl _, by have := HM.out; go_num, rfl, U32s.below hpu3 hb4, hAu', hown, hb4, hDs, Nat.le_refl _⟩
  case round =>
    obtain ⟨k, us, qs, A, c', hk, rfl, rfl, hus, hAq, hown1, hbr, hat, hul⟩ := hrel
    obtain ⟨wo, hwo⟩ : ∃ wo : World, wo = wr := ⟨_, rfl⟩
    subst hwo
    have hcc : us.length ≤ c' ∧ c' ≤ 9223372036854775807 := by
      obtain ⟨_, _, e, e2, e3, _⟩ := id hus
      injection e with _ _ e
      subst e
      exact ⟨e2, e3⟩
    cases k with
    | zero =>
      have hdn := Lib.hid hat.done
      have hus' := hus
      have hcscr : wo.cell? ⟨w1.heap.size, 0, none⟩ = some (.int .u32 (s : Int)) := by rw [hbr.cell (show w1.heap.size < w3.heap.size from hw13)]; exact hcsc3
      go_wp2_with fail
      go_region_law (first
        | (go_simp
           go_at_call 91
           refine (trim_u hus.drew (Below.refl _ _) hat.digs).mono ?_
           rintro e w5 ⟨pt, rfl, hpt, rfl, hobt⟩
           rw [hdn.out.2, HDM.out.2] at hpt)
        | (go_simp
           go_at_call 105
           refine (short_any hpt hs0 (by omega) (by have := HRL.out; omega)).mono ?_
           rintro e w6 ⟨pr, rfl, hpr, hx6, hnr⟩))
      all_goals
        go_wp2_with fail
        refine (trim_u (U32s.below (U32s.of_own hown1 (Nat.le_refl _) (by have := HM.out; omega)) (Ext.trans (Below.refl _ _).drew hx6)) (Below.refl _ _) hat.qdigs).mono ?_
        rintro e w7 ⟨pq, rfl, hpq, rfl, hoq⟩
        rw [hdn.out.1, HDM.out.1] at hpq
        go_wp2
        go_ret2
        refine ⟨_, _, rfl, hpq, ?_, hx03.trans (hbr.trans (Ext.trans (Below.refl _ _).drew hx6)), (New.at_ (by have := hx03.size; omega)).same hoq, hnr.mono (by have := hx03.size; have := hbr.size; show B0 ≤ wo.heap.size; omega)⟩
        rw [Nat.mul_div_cancel _ hs0] at hpr
        exact hpr
    | succ k =>
      have hkl := hat.len
      have hPl := hat.part_lt
      have hfr := hus.from_ (k := k) (by omega)
      rw [if_neg (by omega)] at hfr
      have hdp := hat.digs.drop k
      go_wp2_with fail
      refine (clone_any hfr (by rw [List.length_drop]; omega)).mono ?_
      rintro e w5 ⟨pc, rfl, hpc, hx5, hnc⟩
      go_wp2_with fail
      refine (trim_u hpc (Below.refl _ _) hdp).mono ?_
      rintro e w5' ⟨pp, rfl, hpp, rfl, hobp⟩
      have hnp := hnc.same hobp
      clear hnc hobp
      have hpv5 := CanV.below hpv (hbr.trans hx5)
      go_wp2_with fail
      refine (compare_any hpp hpv5).mono ?_
      rintro e w6 ⟨rfl, hx6⟩
      have hb36 := hbr.trans (Ext.trans hx5 hx6)
      have hus6 := hus.below (Ext.trans hx5 hx6)
      have hown6 := hown1.kept (Ext.grown (Ext.trans hx5 hx6)) (.inr (by simp [Value.ownBlock]))
      by_cases hPV : val (us.drop k) < V
      · have hcm : cmpN (val (us.drop k)) V < 0 := cmpN_neg.2 hPV
        have hskip := Lib.hid (hat.skip hPV)
        generalize cmpN (val (us.drop k)) V = cm at *
        go_wp2
        go_roundw
        case rel => exact ⟨k, us, qs, A, c', by omega, by go_num, rfl, hus6, hAq, hown6, hb36, hskip.out, hul⟩
        case measure => simp [intOf]; try omega
      · have hcm : 0 ≤ cmpN (val (us.drop k)) V := by have := @cmpN_neg (val (us.drop k)) V; omega
        have htake := Lib.hid (fun q => hat.take (q := q) (by omega))
        have hP0 : val (us.drop k) ≠ 0 := by omega
        have hVP : V ≤ val (us.drop k) := by omega
        have hpp0 := hpp
        unfold CanV at hpp0
        obtain ⟨lp, p1, elp, hp0, hp1, hbp1, hbp2⟩ := top_bounds hP0
        have hll := limbsOf_length_mono hVP
        have hlu : (limbsOf (val (us.drop k))).length ≤ lv.length + 2 := by
          refine limbsOf_length_le ?_
          have e1 : 1000000000 * V < 1000000000 * (1000000000 ^ lv.length * (tv + 1)) := Nat.mul_lt_mul_of_pos_left hbv2 (by omega)
          have e2 : 1000000000 ^ lv.length * (tv + 1) ≤ 1000000000 ^ lv.length * 1000000000 := Nat.mul_le_mul_left _ (by omega)
          rw [Nat.pow_succ, Nat.pow_succ]
          omega
        rw [elp] at hpp0 hlu hll
        rw [elv] at hll
        simp only [List.length_append, List.length_cons, List.length_nil, Nat.zero_add] at hll hlu
        obtain ⟨Ap, cp, hppv, kp2, kp3, kp4⟩ := id hpp0
        simp only [List.length_append, List.length_cons, List.length_nil, Nat.zero_add] at hppv kp2
        subst hppv
        have hpp6 := hpp0.below hx6
        have hpv6 := hpv5.below hx6
        unfold CanV at hpv6
        rw [elv] at hpv6
        obtain ⟨ap, rfl, _, hcp1⟩ := hpp6.cell (k := lp.length) (by simp)
        rw [show (lp ++ [p1]).getD lp.length 0 = p1 from by simp [List.getD]] at hcp1
        have hpv6' : U32s w6 (.slice Av (lv.length + 1) cv) (lv ++ [tv]) := hpv6
        obtain ⟨av, hav, _, hcv1⟩ := hpv6'.cell (k := lv.length) (by simp)
        rw [show (lv ++ [tv]).getD lv.length 0 = tv from by simp [List.getD]] at hcv1
        subst hav
        have hp2 : 0 < lp.length → ∃ p0 : Nat, p0 < 1000000000 ∧ w6.cell? (ap.add (lp.length - 1)) = some (.int .u32 (p0 : Int)) ∧ val (us.drop k) < 1000000000 ^ (lp.length - 1) * (p1 * 1000000000 + p0 + 1) := by
          intro h
          obtain ⟨p0, e1, e2, e3⟩ := top2_bounds elp h
          obtain ⟨ap', e4, _, e5⟩ := hpp6.cell (k := lp.length - 1) (by simp; omega)
          injection e4 with e4
          subst e4
          have e6 : (lp ++ [p1]).getD (lp.length - 1) 0 = p0 := by rw [← e1]; simp [List.getD, List.getElem?_append, show lp.length - 1 < lp.length by omega]
          exact ⟨p0, e2, by rw [e5, e6], e3⟩
        have HP := Lib.hid hp2
        clear hp2
        generalize cmpN (val (us.drop k)) V = cm at *
        generalize hPe : val (us.drop k) = P at *
        clear hPe
        go_upto_if 93 with (fail)
        go_cut [14] (fun tp wx => w6 = wx ∧ ∃ p : Nat, tp = .int .u64 p ∧ p < 1000000000000000000 ∧ P < 1000000000 ^ lv.length * (p + 1))
        case first =>
          by_cases hlen : lp.length = lv.length
          · go_wp2_with fail
            go_meet
            case rel => exact ⟨rfl, p1, rfl, by omega, by rw [← hlen]; exact hbp2⟩
          · obtain ⟨p0, hp01, hcp0, hbp0⟩ := HP.out (by omega)
            rw [show lp.length - 1 = lv.length from by omega] at hbp0
            go_wp2_with fail
            go_meet
            case rel => exact ⟨rfl, p1 * 1000000000 + p0, by go_num, by omega, hbp0⟩
        case rest =>
          obtain ⟨rfl, p, rfl, hpb, hpl⟩ := hcut
          have hq1 := guess_ge htv0 hbv1 hpl
          have hg0 : 0 ≤ (p : Int) / tv := Int.ediv_nonneg (by omega) (by omega)
          have hg1 : (p : Int) / tv < 1000000000000000000 := Int.lt_of_le_of_lt (Int.ediv_le_self _ (by omega)) (by omega)
          have HQ := Lib.hid hq1
          have HPL := Lib.hid hpl
          clear hq1 hpl hpb
          go_upto_region 17 with (fail)
          go_cut [15] (fun gv wx => w6 = wx ∧ ∃ g : Nat, gv = .int .u64 g ∧ P / V ≤ g ∧ g ≤ 999999999)
          case first =>
            have hPV9 : P / V ≤ 999999999 := by
              have := (Nat.div_lt_iff_lt_mul hVpos).2 hPl
              omega
            have HP9 := Lib.hid hPV9
            clear hPV9
            by_cases hbig : (999999999 : Int) < (p : Int) / tv
            · go_wp2_with fail
              go_meet
              case rel => exact ⟨rfl, 999999999, rfl, HP9.out, by omega⟩
            · go_wp2_with fail
              go_meet
              case rel => exact ⟨rfl, p / tv, by simp, HQ.out, by rw [← Int.ofNat_le]; simp; omega⟩
          case rest =>
            obtain ⟨rfl, g, rfl, hgQ, hg9⟩ := hcut
            clear hg0 hg1
            have hQ1 : 1 ≤ P / V := (Nat.le_div_iff_mul_le hVpos).2 (by omega)
            have hcg : CanV (w6.alloc (.cells #[.int .u32 (g : Int)] 70)) (.slice (some ⟨w6.heap.size, 0, none⟩) 1 1) g := by
              unfold CanV
              rw [limbsOf_one (by omega) (by omega)]
              exact U32s.lit w6 _
            have hpV6 := CanV.below hpv5 hx6
            have hVlen : (limbsOf V).length = lv.length + 1 := by rw [elv]; simp
            have hPlen : (limbsOf P).length = lp.length + 1 := by rw [elp]; simp
            have hgl : (limbsOf g).length = 1 := by rw [limbsOf_one (by omega) (by omega)]; rfl
            have HGQ := Lib.hid hgQ
            clear hgQ hQ1
            have HL1 := Lib.hid hVlen
            have HL2 := Lib.hid hPlen
            have HL3 := Lib.hid hgl
            clear hVlen hPlen hgl
            go_wp2_with fail
            refine (times_any (hpV6.alloc _) hcg (by rw [HL1.out, HL3.out]; omega)).mono ?_
            rintro e w7 ⟨pd, rfl, hpd, hx7, hnd⟩
            have hx67 : Ext w6 w7 := Ext.trans ((Below.refl _ _).alloc (Nat.le_refl _) _) hx7
            have hb37 := hb36.trans hx67
            have hnd0 : New (w3.heap.size + 1) pd := hnd.mono (by have := hb36.size; simp; omega)
            clear hnd
            clear hcg hx7
            go_wp2
            go_loopw [15, 16] (fun gv dv wr => ∃ (g : Nat) (pd : Value), P / V ≤ g ∧ g ≤ 999999999 ∧ gv = .int .u64 g ∧ dv = pd ∧ CanV wr pd (V * g) ∧ Ext w6 wr ∧ New (w3.heap.size + 1) pd)
              (fun gv _ _ => (intOf gv).toNat)
            case atStart => exact ⟨g, pd, HGQ.out, hg9, rfl, rfl, hpd, hx67, hnd0⟩
            case round =>
              obtain ⟨g, pd, hgQ, hg9, rfl, rfl, hpd, hx6r, hnd⟩ := hrel
              have hpVr := hpV6.below hx6r
              have hppr := hpp.below (hx6.trans hx6r)
              have hgv : V * g ≤ 999999999 * V := by rw [Nat.mul_comm]; exact Nat.mul_le_mul_right _ hg9
              have hgl : (limbsOf (V * g)).length ≤ lv.length + 2 := by
                have e1 := limbsOf_length_mono hgv
                have e2 := limbsOf_length_mul 999999999 V
                rw [HL1.out, limbsOf_one (d := 999999999) (by omega) (by omega)] at e2
                simp only [List.length_cons, List.length_nil, Nat.zero_add] at e2
                omega
              have HG := Lib.hid hgl
              clear hgl hgv
              have hdm : P / V * V ≤ P := Nat.div_mul_le_self _ _
              by_cases hgt : P < V * g
              · have hgQ1 : P / V < g := by
                  refine Nat.lt_of_mul_lt_mul_left (a := V) ?_
                  rw [Nat.mul_comm V (P / V)]
                  exact Nat.lt_of_le_of_lt hdm hgt
                have hg1 : V * g - V = V * (g - 1) := by rw [Nat.mul_sub, Nat.mul_one]
                have HG1 := Lib.hid hg1
                have hgp : 0 < g := Nat.zero_lt_of_lt hgQ1
                have hVg : V ≤ V * g := Nat.le_mul_of_pos_right _ hgp
                have HVg := Lib.hid hVg
                have hcm2 : 0 < cmpN (V * g) P := cmpN_pos.2 hgt
                have HgQ1 := Lib.hid hgQ1
                clear hg1 hVg hgt hdm hgQ hgQ1
                go_wp2_with fail
                refine (compare_any hpd hppr).mono ?_
                rintro e w8 ⟨rfl, hx8⟩
                generalize cmpN (V * g) P = cm2 at *
                go_wp2_with fail
                refine (minus_any (hpd.below hx8) (hpVr.below hx8) (by have := HG.out; omega) HVg.out).mono ?_
                rintro e w9 ⟨pd2, rfl, hpd2, hx9, hnd2⟩
                rw [HG1.out] at hpd2
                go_wp2
                go_roundw
                case rel => exact ⟨g - 1, pd2, Nat.le_sub_one_of_lt HgQ1.out, by omega, by go_num, rfl, hpd2, (hx6r.trans hx8).trans hx9, hnd2.mono (by have := hb36.size; have := hx6r.size; have := hx8.size; have := (hown1.lt _ rfl); have := hx5.size; have := hx6.size; omega)⟩
                case measure => simp [intOf]; try omega
              · have hcm2 : cmpN (V * g) P ≤ 0 := by have := @cmpN_pos (V * g) P; omega
                have hgE : g = P / V := by
                  refine Nat.le_antisymm ?_ hgQ
                  rw [Nat.le_div_iff_mul_le hVpos, Nat.mul_comm]
                  exact Nat.le_of_not_lt hgt
                have HGE := Lib.hid hgE
                clear hgE hdm hgQ hgt
                go_wp2_with fail
                refine (compare_any hpd hppr).mono ?_
                rintro e w8 ⟨rfl, hx8⟩
                have hx68 := hx6r.trans hx8
                have hown8 := hown6.kept (Ext.grown hx68) (.inr (by simp [Value.ownBlock]))
                have hql : k < M := hk
                have hcq : w8.cell? ⟨w3.heap.size, k, none⟩ = some (.int .u32 (qs.getD k 0 : Nat)) := by rw [hown8.cellAt k (by omega), u32s_get qs _ (by rw [hat.qlen]; omega)]
                have hfq : w8.frozen? ⟨w3.heap.size, k, none⟩ = false := hown8.frozenAt _
                generalize qs.getD k 0 = q0 at *
                generalize cmpN (V * g) P = cm2 at *
                go_wp2_with fail
                have hs9 := (hown8.stored k (.int .u32 (g : Int))).1
                rw [u32s_set] at hs9
                have hus9 := (hus6.below hx68).setCell (p := ⟨w3.heap.size, k, none⟩) hAq (.int .u32 (g : Int))
                have hwo3 : w3.heap.size < wo.heap.size := (hown1.lt _ rfl).2
                have hpp9 := (CanV.below hpp (hx6.trans hx68)).setNew (p := ⟨w3.heap.size, k, none⟩) hnp hwo3 (.int .u32 (g : Int))
                have hpd9 := (CanV.below hpd hx8).setNew (p := ⟨w3.heap.size, k, none⟩) hnd (Nat.lt_succ_self _) (.int .u32 (g : Int))
                have hb39 : Ext w3 (w8.setCell ⟨w3.heap.size, k, none⟩ (.int .u32 (g : Int))) := (hb36.trans hx68).setCell (Nat.le_refl _) _
                clear hcq hfq hown8
                generalize hW9 : w8.setCell ⟨w3.heap.size, k, none⟩ (.int .u32 (g : Int)) = W9 at *
                clear hW9
                have hkc : (k : Int) ≤ (c' : Int) := by omega
                have hk0 : (0 : Int) ≤ (k : Int) := by omega
                have HLE : Hid (V * g ≤ P) := Lib.hid (by rw [HGE.out, Nat.mul_comm]; exact Nat.div_mul_le_self _ _)
                go_region_law (first
                  | (refine step_append_full _ (by rfl) (.tmp 136) (.tmp 139) 28 (by rfl) 70 i0 (.int .u32 0) 1 4 Tryd.underlying28 hi hz0 hz1 hz2 rfl (by omega) A bo k (limbsOf (P - V * g)).length cb (u32s (us.take k)) (u32s (limbsOf (P - V * g))) (by rfl) (by rfl) ((hus9.drew.below hx10).upto (by omega)) hro (u32s_oneCell _) (by unfold maxLen; omega) (by omega) ?_
                     intro ao' cap' w11 k1 k2 k3 k4 k5)
                  | (go_simp
                     go_at_call 94
                     refine (minus_any (a := P) (b := V * g) hpp9.drew hpd9.drew (by rw [HL2.out]; omega) HLE.out).mono ?_
                     rintro e w10 ⟨pr, rfl, hpr, hx10, hn10⟩
                     obtain ⟨bo, cb, rfl, hr2, hr3, hro⟩ := id hpr
                     have hrl : (limbsOf (P - V * g)).length ≤ lp.length + 1 := by have := limbsOf_length_mono (Nat.sub_le P (V * g)); rw [HL2.out] at this; exact this))
                have hPg : P - V * g < V := by
                  have e1 := Nat.div_add_mod P V
                  have e2 := Nat.mod_lt P hVpos
                  rw [← HGE.out] at e1
                  omega
                have hnew := htake.out g (by omega) HLE.out hPg
                have hrl2 : (limbsOf (P - V * g)).length ≤ lv.length + 1 := by have := limbsOf_length_mono (Nat.le_of_lt hPg); rw [HL1.out] at this; exact this
                have hull : us.length ≤ us0.length := hul
                have hkM : k + 1 ≤ M := hk
                have hHM := HM.out
                have hlen' : (us.take k ++ limbsOf (P - V * g)).length = k + (limbsOf (P - V * g)).length := by rw [List.length_append, List.length_take, Nat.min_eq_left (by omega)]
                have hus11 : U32s w11 (.slice ao' (us.take k ++ limbsOf (P - V * g)).length cap') (us.take k ++ limbsOf (P - V * g)) :=
                  ⟨ao', cap', rfl, by rw [hlen']; exact k1, k2, by rw [hlen', ← u32s_append]; exact k3⟩
                have hx911 : Ext W9 w11 := Ext.trans ((Below.refl _ _).drew) (Ext.trans hx10 k4)
                have hown11 := hs9.kept (Ext.grown hx911) (.inr (by simp [Value.ownBlock]))
                have HN := Lib.hid hnew
                have HLN := Lib.hid hlen'
                clear hnew hlen' k3 k1 hPg hHM hrl2
                go_wp2
                go_roundw
                case rel =>
                  refine ⟨k, us.take k ++ limbsOf (P - V * g), qs.set k g, ao', cap', by omega, by go_num, by rw [HLN.out], hus11, ?_, hown11, hb39.trans hx911, HN.out, ?_⟩
                  · intro ad h
                    rcases k5 ad h with e | e
                    · exact hAq ad e
                    · have e1 := hb39.size
                      have e2 := hx10.size
                      have e3 : w3.heap.size < W9.heap.size := (hs9.lt _ rfl).2
                      have e4 : W9.drew.heap.size = W9.heap.size := rfl
                      omega
                  · rw [HLN.out]
                    have e1 : (limbsOf (P - V * g)).length ≤ lv.length + 1 := by
                      have e2 : P - V * g < V := HN.out.small |> fun h => by
                        rw [List.drop_left' (by simp; omega), val_limbsOf] at h; exact h
                      have := limbsOf_length_mono (Nat.le_of_lt e2); rw [HL1.out] at this; exact this
                    have := HM.out
                    omega
                case measure => simp [intOf]; try omega

theorem divide_any {u v : Value} {a b : Nat} {w : World} {B0 : Nat} (hn : New B0 u) (hB0 : B0 ≤ w.heap.size) (hu : CanV w u a) (hv : CanV w v b) (hb0 : 0 < b) (hl : (limbsOf a).length ≤ 2199023255552) :
    Calls Tryd.prog 92 #[u, v] w (DivR w B0 a b) := by
  by_cases hlt : a < b
  · exact divide_small hn hu hv hlt
  · by_cases h1 : (limbsOf b).length = 1
    · refine divide_one hB0 hu hv (by omega) hb0 ?_ (by omega)
      have := limbsOf_lt b
      rw [h1] at this
      simpa using this
    · have h0 : (limbsOf b).length ≠ 0 := fun e => by have := (limbsOf_nil_iff b).1 (List.eq_nil_of_length_eq_zero e); omega
      exact divide_many hB0 hu hv (by omega) (by omega) hl

end Go.Proofs.YtkjcbfaimonaoaaDoor
