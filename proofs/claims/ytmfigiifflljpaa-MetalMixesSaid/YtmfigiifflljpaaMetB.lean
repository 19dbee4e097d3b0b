/- metal.reduced. -/
import Derived.Test.YtmfigiifflljpaaMetA
import Derived.Test.YtmfigiifflljpaaDiv
import Derived.Test.YtmfigiifflljpaaFracN
import Derived.Test.YtmfigiifflljpaaHoldM
set_option linter.unusedVariables false
set_option linter.unusedSimpArgs false
set_option maxRecDepth 100000
namespace Go.Proofs.Ytmfigiifflljpaa
open Go.RowKit Num

theorem info_fl : (Try.prog.info? 39).map (fun i => (i.zero, i.size, i.bytes)) = some (some (.slice none 0 0), 1, 24) := by kernel_rfl
theorem sgnQ_ne {q : Rat} (hq : q ≠ 0) : sgnQ q ≠ 0 := by
  unfold sgnQ
  split
  · omega
  · split
    · omega
    · grind
theorem scl_of {S : Mx} {k c C : Nat} {q : Rat} (hq : S k c = q) {i j : Nat} (hj : j < C) : (if i = k ∧ j < C then S k j / q else S i j) = scl S k c i j := by
  rw [scl_at]
  by_cases hi : i = k
  · rw [if_pos ⟨hi, hj⟩, if_pos hi, hq]
  · rw [if_neg (fun h => hi h.1), if_neg hi]
theorem upd_row {S : Mx} {k j : Nat} {q : Rat} {i' j' : Nat} : (if i' = k ∧ j' = j then S k j / q else if i' = k ∧ j' < j then S k j' / q else S i' j') = if i' = k ∧ j' < j + 1 then S k j' / q else S i' j' := by
  by_cases hi : i' = k
  · by_cases hj : j' = j
    · rw [if_pos ⟨hi, hj⟩, if_pos ⟨hi, by omega⟩, hj]
    · rw [if_neg (fun h => hj h.2)]
      by_cases hl : j' < j
      · rw [if_pos ⟨hi, hl⟩, if_pos ⟨hi, by omega⟩]
      · rw [if_neg (fun h => hl h.2), if_neg (fun h => by have := h.2; omega)]
  · rw [if_neg (fun h => hi h.1), if_neg (fun h => hi h.1), if_neg (fun h => hi h.1)]
theorem elm_skip {S : Mx} {k c i i' j' : Nat} (hi : i = k) : (if i' < i then elm S k c i' j' else S i' j') = if i' < i + 1 then elm S k c i' j' else S i' j' := by
  by_cases h1 : i' < i
  · rw [if_pos h1, if_pos (by omega)]
  · rw [if_neg h1]
    by_cases h2 : i' < i + 1
    · rw [if_pos h2, elm_at, if_pos (by omega), show i' = k by omega]
    · rw [if_neg h2]
theorem elm_upd {S T : Mx} {k c i j : Nat} (hi : i ≠ k) {i' j' : Nat} : (if i' = i ∧ j' = j then S i j - S i c * S k j else if i' = i ∧ j' < j then elm S k c i' j' else T i' j') = if i' = i ∧ j' < j + 1 then elm S k c i' j' else T i' j' := by
  by_cases h1 : i' = i
  · by_cases h2 : j' = j
    · rw [if_pos ⟨h1, h2⟩, if_pos ⟨h1, by omega⟩, elm_at, if_neg (by omega), h1, h2]
    · rw [if_neg (fun h => h2 h.2)]
      by_cases h3 : j' < j
      · rw [if_pos ⟨h1, h3⟩, if_pos ⟨h1, by omega⟩]
      · rw [if_neg (fun h => h3 h.2), if_neg (fun h => by have := h.2; omega)]
  · rw [if_neg (fun h => h1 h.1), if_neg (fun h => h1 h.1), if_neg (fun h => h1 h.1)]
theorem elm_done {S : Mx} {k c i C i' j' : Nat} (hj : j' < C) : (if i' = i ∧ j' < C then elm S k c i' j' else if i' < i then elm S k c i' j' else S i' j') = if i' < i + 1 then elm S k c i' j' else S i' j' := by
  by_cases h1 : i' = i
  · rw [if_pos ⟨h1, hj⟩, if_pos (by omega)]
  · rw [if_neg (fun h => h1 h.1)]
    by_cases h2 : i' < i
    · rw [if_pos h2, if_pos (by omega)]
    · rw [if_neg h2, if_neg (by omega)]
/-- What a step leaves. -/
theorem rd_yes {R s : Rd} {n c k p : Nat} {S1 S2 : Mx} (h : R = stepR s n c) (hk : k = s.leads.length) (hp : p = piv s.m n c k) (hn : p < n) (h1 : S1 = swp s.m k p) (h2 : S2 = scl S1 k c) : R.m = elm S2 k c ∧ R.leads = s.leads ++ [c] := by
  subst h h1 h2
  subst hk
  subst hp
  rw [stepR_yes (by omega)]
  exact ⟨rfl, rfl⟩
theorem rd_no {R s : Rd} {n c k p : Nat} (h : R = stepR s n c) (hk : k = s.leads.length) (hp : p = piv s.m n c k) (hn : p = n) : R.m = s.m ∧ R.leads = s.leads := by
  subst h
  subst hk
  rw [stepR_no (by omega)]
  exact ⟨rfl, rfl⟩
/-- What the reduced form gives: the matrix, canonical, and the columns of the leads. -/
def GivesRd (w : World) (n C : Nat) (s : Rd) (e : Ending) (w' : World) : Prop :=
  ∃ A c A' c', e = .returned (.tuple #[.slice A n c, .slice A' s.leads.length c']) ∧ EMat true w' (.slice A n c) n C s.m ∧ IntsV w' (.slice A' s.leads.length c') (s.leads.map (fun l : Nat => (l : Int))) ∧ Ext w w'

set_option maxHeartbeats 16000000 in
theorem mred_n {K : Bool} {v : Value} {n C L : Nat} {M : Mx} {w : World} (hv : EMat K w v n C M) (hL3 : 3 ≤ L) (hL : L ≤ 1000) (hfb : FBm M n C L) (hn : n ≤ 8) (hC : C ≤ 9) (hz : n = 0 → C = 0) :
    Calls Try.prog 42 #[v] w (GivesRd w n C (rrefs M n C)) := by
  obtain ⟨A, cap, rfl, hc1, hc2⟩ := hv.form
  have HV := Lib.hid (fun (w' : World) (hx : Ext w w') => hv.below hx)
  have HB := Lib.hid (fun i j (hi : i < n) (hj : j < C) => hfb i j hi hj)
  have HBR := Lib.hid (fun c (hc : c ≤ C) => (fbm_rrefs hfb (by omega) c hc).mono (pow7_le (c := c) (L := L) (by omega) hL))
  have HZ := Lib.hid hz
  have HC : Hid (∀ wx, Ext w wx → Calls Try.prog 44 #[.slice A n cap] wx (fun e w' => e = .returned (.int .i64 (C : Int)) ∧ w' = wx)) := Lib.hid (fun wx hx => by
    have h := mcols_l (hv.below hx).lens
    have e : (List.replicate n C).headD 0 = C := by
      cases n with
      | zero => simp [hz rfl]
      | succ n => simp [List.replicate_succ]
    rw [e] at h
    exact h)
  obtain ⟨i0, hi, hz0, hz1, hz2⟩ := info_parts info_frac
  obtain ⟨j0, hj, hy0, hy1, hy2⟩ := info_parts info_fl
  obtain ⟨i1, hi1', hx0', hx1', hx2'⟩ := info_parts info_int
  clear hv hfb hz
  go_enter Try.func42, Try.ntmps42
  go_wp2
  go_loopw [4, 22] (fun mv iv wr => ∃ (k : Nat) (us : List Value), k ≤ n ∧ iv = .int .i64 k ∧ MatO true w.heap.size wr mv k C us us M ∧ Ext w wr) (fun _ iv _ => n - (intOf iv).toNat)
  case atStart => exact ⟨0, [], Nat.zero_le _, rfl, MatO.nil_ _ _ _ _ _, Below.refl _ _⟩
  case round =>
    obtain ⟨k, us, hk, rfl, hM, hx⟩ := hrel
    by_cases hkn : k < n
    · have HM := Lib.hid hM
      obtain ⟨wo, hwo⟩ : ∃ wo, wo = wr := ⟨_, rfl⟩
      subst hwo
      obtain ⟨b, o, A1, cp1, rfl, hb, hcell, hrow⟩ := (HV.out _ hx).at_ hkn
      have HR := Lib.hid (fun (w' : World) (h : Ext wo w') => hrow.below h)
      have hi1 : (0 : Int) ≤ (k : Int) := by omega
      have hi2 : (k : Int) < (n : Int) := by omega
      clear hM hrow
      go_wp2
      go_loopw [7, 28] (fun rv iv wr => ∃ (j : Nat) (ts : List Fc), j ≤ C ∧ iv = .int .i64 j ∧ OwnF 34 wo.heap.size wo.heap.size wr rv ts (uptoQ (M k) j) ∧ Ext wo wr) (fun _ iv _ => C - (intOf iv).toNat)
      case atStart => exact ⟨0, [], Nat.zero_le _, rfl, OwnF.nil_ _ _ _ _, Below.refl _ _⟩
      case round =>
        obtain ⟨j, ts, hj', rfl, hown, hy⟩ := hrel
        by_cases hjn : j < C
        · obtain ⟨b', o', neg, A2, k2, c2, A3, k3, c3, rfl, hb', e0, e1, e2, he⟩ := (HR.out _ hy).at_ hjn
          have HU := Lib.hid (uptoQ_length (M k) j)
          have HOWN := Lib.hid hown
          have hy1' : (0 : Int) ≤ (j : Int) := by omega
          have hy2' : (j : Int) < (C : Int) := by omega
          have HE := Lib.hid (he.any (HB.out k j hkn hjn) hL3 (by omega))
          clear hown he
          go_wp2_with (first
            | (go_at_call 67; (with_reducible refine (norm_f (HE.out.below (by first | ((repeat first | assumption | exact Below.refl _ _ | refine ext_alloc ?_ _ | refine ext_drew ?_ | refine ext_set ?_ (by first | omega | (simp; done) | (simp; omega)) _); done) | fail)) (by omega)).mono ?_); rintro e w7 ⟨b7, A7, k7, c7, B7, l7, d7, rfl, h7, x7, n7, m7⟩; have y7 : Ext wr w7 := Ext.trans (by first | ((repeat first | assumption | exact Below.refl _ _ | refine ext_alloc ?_ _ | refine ext_drew ?_ | refine ext_set ?_ (by first | omega | (simp; done) | (simp; omega)) _); done) | fail) x7)
            | (at_builtin; refine wpList_append_mine _ (by rfl) (.tmp 32) (.tmp 35) 39 (by rfl) wo.heap.size 34 i0 (.agg #[.bool false, .slice none 0 0, .slice none 0 0]) 3 56 Try.underlying39 hi hz0 hz1 hz2 rfl (by omega) _ _ _ (by rfl) (HOWN.out.ext (ext_alloc y7 _)).1.1 ⟨w7.heap.size, 0, none⟩ 1 1 [.bool b7, .slice A7 k7 c7, .slice B7 l7 d7] (by rfl) rfl (cell_three w7 _ _ _ _) (by simp [Value.oneCell']) (by rw [HU.out]; unfold maxLen; omega) (by rw [HU.out]; omega) (by have := hy.size; have := y7.size; simp; omega) ?_; intro v8 w8 ho8 hg8 hw8))
          have hO8 : OwnF 34 wo.heap.size wo.heap.size w8 v8 (ts ++ [⟨b7, .slice A7 k7 c7, .slice B7 l7 d7⟩]) (uptoQ (M k) (j + 1)) := by
            rw [uptoQ_succ]; exact OwnF.grow (t := ⟨b7, .slice A7 k7 c7, .slice B7 l7 d7⟩) HOWN.out (ext_alloc y7 _) (h7.below (ext_alloc (Below.refl _ _) _)) (n7.mono (by simp)) (m7.mono (by simp)) hy.size ho8 hg8 hw8
          have hx8 : Ext wo w8 := OwnF.grow_ext HOWN.out hy (ext_alloc y7 _) hg8
          clear ho8 hg8 hw8 HOWN h7 x7 n7 m7
          refine ⟨⟨j + 1, _, by omega, by go_num, hO8, hx8⟩, ?_⟩
          simp [intOf]; omega
        · obtain rfl : j = C := by omega
          have hjj : ¬ ((j : Int) < (j : Int)) := by omega
          obtain ⟨A9, c9, rfl, _, _⟩ := hown.fracs.form
          rw [uptoQ_length] at hown ⊢
          have HOWN := Lib.hid hown
          have HP := Lib.hid (fun (w1 w' : World) (v' : Value) (hE : Ext wo w1) (hEr : Ext wr w1) (h1 : w'.ownsRow w.heap.size 39 1 v' (k + 1) (us ++ [.slice A9 j c9])) (h2 : w1.grownBy w' _) (h3 : v'.ownBlock = _ ∨ New w1.heap.size v') => MatO.push (ts := ts) HM.out hx.size hE (by have h := (hown.ext hEr).1.1; rw [uptoQ_length] at h; exact h) (by have h := hown.1.2; rw [uptoQ_length] at h; exact h) (fun jj t ht => by
              have hlt := (List.getElem?_eq_some_iff.1 ht).1
              have hl : ts.length = j := by have h := hown.1.2; rw [uptoQ_length] at h; exact h
              obtain ⟨m1, m2, m3, m4, m5⟩ := hown.2 jj t (M k jj) ht (uptoQ_at (by omega))
              exact ⟨.inl (m1.below hEr), ⟨m2, m3⟩, HM.out.avd m4, HM.out.avd m5⟩) h1 h2 h3)
          clear hown
          go_wp2_with (at_builtin; refine wpList_append_mine _ (by rfl) (.tmp 38) (.tmp 40) 22 (by rfl) w.heap.size 39 j0 (.slice none 0 0) 1 24 Try.underlying22 hj hy0 hy1 hy2 rfl (by omega) _ _ _ (by rfl) (HM.out.ext (ext_alloc hy _)).own ⟨wr.heap.size, 0, none⟩ 1 1 [.slice A9 j c9] (by rfl) rfl (cell_one wr _ _) (by simp [Value.oneCell']) (by unfold maxLen; omega) (by omega) (by have := hx.size; have := hy.size; simp; omega) ?_; intro v8 w8 ho8 hg8 hw8)
          have hM8 := HP.out _ w8 v8 (ext_alloc hy _) (ext_alloc (Below.refl _ _) _) ho8 hg8 hw8
          have hx8 : Ext w w8 := Below.grown (Ext.trans hx (ext_alloc hy _)) hg8 (by have := hx.size; have := hy.size; simp; omega) fun g hg => (HM.out.lt (.inl hg)).1
          clear ho8 hg8 hw8
          go_roundw
          case rel => exact ⟨k + 1, _, by omega, by go_num, hM8, hx8⟩
          case measure => simp [intOf]; omega
    · obtain rfl : n = k := by omega
      have hkk : ¬ ((n : Int) < (n : Int)) := by omega
      obtain ⟨AV, cV, rfl, _, _⟩ := hM.mat.form
      have HM0 := Lib.hid hM
      have HBL := Lib.hid hM.blk
      obtain ⟨W1, hW1⟩ : ∃ W1, W1 = wr := ⟨_, rfl⟩
      subst hW1
      clear hM
      go_wp2_with (go_at_call 44; (with_reducible refine (HC.out _ hx).mono ?_); rintro e w2 ⟨rfl, hw2⟩; obtain rfl : W1 = w2 := hw2.symm)
      have hw1 := hx.size
      go_loopw [10, 45] (fun lv iv wr => ∃ (c : Nat) (us : List Value), c ≤ C ∧ iv = .int .i64 c ∧ Hid (MatO true w.heap.size wr (.slice AV n cV) n C us (lv :: us) (rrefs M n c).m) ∧ Hid (BlkLt W1.heap.size (.slice AV n cV) us) ∧ Hid (wr.ownsRow W1.heap.size 3 1 lv (rrefs M n c).leads.length (i64l ((rrefs M n c).leads.map (fun l : Nat => (l : Int))))) ∧ Ext w wr ∧ W1.heap.size ≤ wr.heap.size) (fun _ iv _ => C - (intOf iv).toNat)
      case atStart => exact ⟨0, us, Nat.zero_le _, rfl, Lib.hid HM0.out.more, HBL, Lib.hid (World.ownsRow_nil _ _ _ _), hx, Nat.le_refl _⟩
      case round =>
        clear HM0 HBL hx
        obtain ⟨c, us, hc, rfl, HM, HBL, HLV, hx, hs1⟩ := hrel
        obtain ⟨AL, cL, rfl, hcl1, hcl2⟩ : ∃ A c', u10 = .slice A (rrefs M n c).leads.length c' ∧ (rrefs M n c).leads.length ≤ c' ∧ c' ≤ 9223372036854775807 := by
          obtain ⟨A, c', h1, h2, h3, _⟩ := IntsV.of_own HLV.out
          rw [List.length_map] at h1 h2
          exact ⟨A, c', h1, h2, h3⟩
        by_cases hcC : c < C
        · have hn0 : 0 < n := Nat.pos_of_ne_zero fun h => by have := HZ.out h; omega
          have HSU := Lib.hid (rrefs_succ M n c)
          have HEC := Lib.hid (ech M n c)
          have HFB := Lib.hid (HBR.out c (by omega))
          obtain ⟨s, hs⟩ : ∃ s, s = rrefs M n c := ⟨_, rfl⟩
          rw [← hs] at HM HLV HSU HEC HFB hcl1 ⊢
          clear hs
          obtain ⟨kk, hkd⟩ : ∃ kk, kk = s.leads.length := ⟨_, rfl⟩
          rw [← hkd] at hcl1 HLV HM ⊢
          have HKK := Lib.hid hkd
          have hkn : kk ≤ n := by have := HEC.out.len; omega
          clear hkd
          obtain ⟨wo, hwo⟩ : ∃ wo, wo = wr := ⟨_, rfl⟩
          subst hwo
          have hc1' : (0 : Int) ≤ (c : Int) := by omega
          have hc2' : (c : Int) < (C : Int) := by omega
          have hwc : IntKind.i64.wrap ((c : Int) + 1) = (c : Int) + 1 := wrap_in (by omega)
          go_wp2
          go_loopw [13] (fun iv wr => ∃ p : Nat, kk ≤ p ∧ p ≤ n ∧ iv = .int .i64 p ∧ (∀ i, kk ≤ i → i < p → s.m i c = 0) ∧ Ext wo wr) (fun iv _ => n - (intOf iv).toNat)
          case atStart => exact ⟨kk, Nat.le_refl _, hkn, rfl, fun i h1 h2 => by omega, Below.refl _ _⟩
          case round =>
            obtain ⟨p, hp1, hp2, rfl, hpz, hy⟩ := hrel
            by_cases hpn : p < n
            · obtain ⟨gv, cv, gp, cp, hve, hup, hcp, _, hgv, hgp, _, _, _⟩ := (HM.out.ext hy).row_at hpn (by omega)
              injection hve with hv1 hv2 hv3
              subst hv1 hv3
              obtain ⟨neg, A1, k1, c1, A2, k2, c2, e0, e1, e2, _, _, _, he, _, _⟩ := (HM.out.ext hy).ent_at hup hcC
              have HE := Lib.hid (he.any (HFB.out p c hpn hcC) (by omega) (by omega))
              have hi1 : (0 : Int) ≤ (p : Int) := by omega
              have hi2 : (p : Int) < (n : Int) := by omega
              have HPZ := Lib.hid hpz
              clear he hpz
              by_cases hq : s.m p c = 0
              · have HSG := Lib.hid (show sgnQ (s.m p c) = 0 from by unfold sgnQ; rw [hq]; decide)
                go_wp2_with (go_at_call 47; (with_reducible refine (sign_e HE.out HSG.out).mono ?_); rintro e w7 ⟨rfl, x7⟩)
                go_roundw
                case rel => exact ⟨p + 1, by omega, by omega, by go_num, fun i h1 h2 => by
                  by_cases hip : i = p
                  · rw [hip]; exact hq
                  · exact HPZ.out i h1 (by omega), hy.trans x7⟩
                case measure => simp [intOf]; omega
              · have HQ := Lib.hid hq
                have HPV := Lib.hid (piv_eq (M := s.m) (n := n) (c := c) (k := kk) hp1 hp2 HPZ.out (.inr hq))
                obtain ⟨z, hz⟩ : ∃ z, sgnQ (s.m p c) = z := ⟨_, rfl⟩
                have hz0' : ¬ (z = 0) := fun h => sgnQ_ne hq (hz.trans h)
                have HSG := Lib.hid hz
                have hz1' : (z == 0) = false := by rw [beq_eq_false_iff_ne]; exact hz0'
                have hpe : ((p : Int) == (n : Int)) = false := by rw [beq_eq_false_iff_ne]; omega
                have hpe' : ¬ (p = n) := by omega
                have hkp : kk < n := by omega
                clear hz hq
                go_upto_region 22 with (go_at_call 47; (with_reducible refine (sign_e HE.out HSG.out).mono ?_); rintro e w7 ⟨rfl, x7⟩; have y7 : Ext wo w7 := hy.trans x7)
                have hi3 : (0 : Int) ≤ (kk : Int) := by omega
                have hi4 : (kk : Int) < (n : Int) := by omega
                obtain ⟨gk, ck, huk, hck, hfk, _, hgk, hgvk, hbv, hbk⟩ := (HM.out.ext y7).row_of hkp (by omega)
                obtain ⟨gp', cp', hup', hcp', hfp, _, _, _, _, _⟩ := (HM.out.ext y7).row_of hpn (by omega)
                rw [hup] at hup'
                cases hup'
                have hgv7 : gv < w7.heap.size := by have := y7.size; omega
                have HS := Lib.hid (fun (w' : World) (h : Ext w7 w') => (⟨(h.cell (p := ⟨gv, kk, none⟩) hgv7).trans hck, (h.cell (p := ⟨gv, p, none⟩) hgv7).trans hcp', (h.frozen (p := ⟨gv, kk, none⟩) hgv7).trans hfk, (h.frozen (p := ⟨gv, p, none⟩) hgv7).trans hfp⟩ : w'.cell? ⟨gv, kk, none⟩ = some (.slice (some ⟨gk, 0, none⟩) C ck) ∧ w'.cell? ⟨gv, p, none⟩ = some (.slice (some ⟨gp, 0, none⟩) C cp) ∧ w'.frozen? ⟨gv, kk, none⟩ = false ∧ w'.frozen? ⟨gv, p, none⟩ = false))
                clear hck hcp hcp' hfk hfp e0 e1 e2
                go_cut [] (fun wx => ∃ us', Hid (MatO true w.heap.size wx (.slice (some ⟨gv, 0, none⟩) n cV) n C us' (.slice AL kk cL :: us') (swp s.m kk p)) ∧ Hid (BlkLt W1.heap.size (.slice (some ⟨gv, 0, none⟩) n cV) us') ∧ Hid (Fr (.slice (some ⟨gv, 0, none⟩) n cV) us' wo wx) ∧ Ext w wx)
                case first =>
                  refine wp_region_H (fun w' => Ext w7 w') [13, 14, 15] (by kernel_rfl) ?_
                  have gS : Ext w7 w7.drew := (Below.refl _ _).drew
                  refine wpAnyH_take 0 (v := ?_) rfl (by kernel_rfl) (by kernel_rfl) (by kernel_rfl) (by kernel_rfl) (by kernel_rfl) (fun _ _ _ h => h) (by rfl) (fun w' hw' => ?_) gS ?_
                  rotate_left
                  focus (go_simp; (try with_reducible rfl); done)
                  (try simp only [Act.put, List.getElem_toArray, List.getElem_cons_succ, List.getElem_cons_zero, List.setIfInBounds_toArray, List.set_cons_zero, List.set_cons_succ])
                  refine wpAnyH_take 1 (v := ?_) rfl (by kernel_rfl) (by kernel_rfl) (by kernel_rfl) (by kernel_rfl) (by kernel_rfl) (fun _ _ _ h => h) (by rfl) (fun w' hw' => ?_) gS ?_
                  rotate_left
                  focus (go_simp; (try with_reducible rfl); done)
                  (try simp only [Act.put, List.getElem_toArray, List.getElem_cons_succ, List.getElem_cons_zero, List.setIfInBounds_toArray, List.set_cons_zero, List.set_cons_succ])
                  refine wpAnyH_takeF 2 (v := ?_) rfl (by kernel_rfl) (by kernel_rfl) (by kernel_rfl) (by kernel_rfl) (fun _ _ _ h => h) (by rfl) (fun w' => ?_) ?_
                  rotate_left
                  focus (go_simp; (try with_reducible rfl); done)
                  (try simp only [Act.put, List.getElem_toArray, List.getElem_cons_succ, List.getElem_cons_zero, List.setIfInBounds_toArray, List.set_cons_zero, List.set_cons_succ])
                  refine wpAnyH_takeF 3 (v := ?_) rfl (by kernel_rfl) (by kernel_rfl) (by kernel_rfl) (by kernel_rfl) (fun _ _ _ h => h) (by rfl) (fun w' => ?_) ?_
                  rotate_left
                  focus (go_simp; (try with_reducible rfl); done)
                  (try simp only [Act.put, List.getElem_toArray, List.getElem_cons_succ, List.getElem_cons_zero, List.setIfInBounds_toArray, List.set_cons_zero, List.set_cons_succ])
                  refine wpAnyH_take 4 (v := ?_) rfl (by kernel_rfl) (by kernel_rfl) (by kernel_rfl) (by kernel_rfl) (by kernel_rfl) (fun _ _ _ h => h) (by rfl) (fun w' hw' => ?_) gS ?_
                  rotate_left
                  focus (go_simp; (try with_reducible rfl); done)
                  (try simp only [Act.put, List.getElem_toArray, List.getElem_cons_succ, List.getElem_cons_zero, List.setIfInBounds_toArray, List.set_cons_zero, List.set_cons_succ])
                  refine wpAnyH_take 5 (v := ?_) rfl (by kernel_rfl) (by kernel_rfl) (by kernel_rfl) (by kernel_rfl) (by kernel_rfl) (fun _ _ _ h => h) (by rfl) (fun w' hw' => ?_) gS ?_
                  rotate_left
                  focus (go_simp; (try with_reducible rfl); done)
                  (try simp only [Act.put, List.getElem_toArray, List.getElem_cons_succ, List.getElem_cons_zero, List.setIfInBounds_toArray, List.set_cons_zero, List.set_cons_succ])
                  refine wpAnyH_take 6 (v := ?_) rfl (by kernel_rfl) (by kernel_rfl) (by kernel_rfl) (by kernel_rfl) (by kernel_rfl) (fun _ _ _ h => h) (by rfl) (fun w' hw' => ?_) gS ?_
                  rotate_left
                  focus (go_simp; (try with_reducible rfl); done)
                  (try simp only [Act.put, List.getElem_toArray, List.getElem_cons_succ, List.getElem_cons_zero, List.setIfInBounds_toArray, List.set_cons_zero, List.set_cons_succ])
                  refine wpAnyH_take 7 (v := ?_) rfl (by kernel_rfl) (by kernel_rfl) (by kernel_rfl) (by kernel_rfl) (by kernel_rfl) (fun _ _ _ h => h) (by rfl) (fun w' hw' => ?_) gS ?_
                  rotate_left
                  focus (have hh := HS.out _ hw'; go_split_ands; go_simp; (try with_reducible rfl); done)
                  (try simp only [Act.put, List.getElem_toArray, List.getElem_cons_succ, List.getElem_cons_zero, List.setIfInBounds_toArray, List.set_cons_zero, List.set_cons_succ])
                  refine wpAnyH_take 8 (v := ?_) rfl (by kernel_rfl) (by kernel_rfl) (by kernel_rfl) (by kernel_rfl) (by kernel_rfl) (fun _ _ _ h => h) (by rfl) (fun w' hw' => ?_) gS ?_
                  rotate_left
                  focus (go_simp; (try with_reducible rfl); done)
                  (try simp only [Act.put, List.getElem_toArray, List.getElem_cons_succ, List.getElem_cons_zero, List.setIfInBounds_toArray, List.set_cons_zero, List.set_cons_succ])
                  refine wpAnyH_take 9 (v := ?_) rfl (by kernel_rfl) (by kernel_rfl) (by kernel_rfl) (by kernel_rfl) (by kernel_rfl) (fun _ _ _ h => h) (by rfl) (fun w' hw' => ?_) gS ?_
                  rotate_left
                  focus (go_simp; (try with_reducible rfl); done)
                  (try simp only [Act.put, List.getElem_toArray, List.getElem_cons_succ, List.getElem_cons_zero, List.setIfInBounds_toArray, List.set_cons_zero, List.set_cons_succ])
                  refine wpAnyH_take 10 (v := ?_) rfl (by kernel_rfl) (by kernel_rfl) (by kernel_rfl) (by kernel_rfl) (by kernel_rfl) (fun _ _ _ h => h) (by rfl) (fun w' hw' => ?_) gS ?_
                  rotate_left
                  focus (go_simp; (try with_reducible rfl); done)
                  (try simp only [Act.put, List.getElem_toArray, List.getElem_cons_succ, List.getElem_cons_zero, List.setIfInBounds_toArray, List.set_cons_zero, List.set_cons_succ])
                  refine wpAnyH_take 11 (v := ?_) rfl (by kernel_rfl) (by kernel_rfl) (by kernel_rfl) (by kernel_rfl) (by kernel_rfl) (fun _ _ _ h => h) (by rfl) (fun w' hw' => ?_) gS ?_
                  rotate_left
                  focus (have hh := HS.out _ hw'; go_split_ands; go_simp; (try with_reducible rfl); done)
                  (try simp only [Act.put, List.getElem_toArray, List.getElem_cons_succ, List.getElem_cons_zero, List.setIfInBounds_toArray, List.set_cons_zero, List.set_cons_succ])
                  refine wpAnyH_take 12 (v := ?_) rfl (by kernel_rfl) (by kernel_rfl) (by kernel_rfl) (by kernel_rfl) (by kernel_rfl) (fun _ _ _ h => h) (by rfl) (fun w' hw' => ?_) gS ?_
                  rotate_left
                  focus (go_simp; (try with_reducible rfl); done)
                  (try simp only [Act.put, List.getElem_toArray, List.getElem_cons_succ, List.getElem_cons_zero, List.setIfInBounds_toArray, List.set_cons_zero, List.set_cons_succ])
                  obtain ⟨t0, t1, t2, t3⟩ := HS.out _ (Below.refl _ _)
                  obtain ⟨um, m0, m1⟩ := (HM.out.ext y7).mid (k := kk) hpn (.slice (some ⟨gp, 0, none⟩) C cp)
                  refine wpAnyH_one 13 (by kernel_rfl) rfl (by rfl) (fun K hK => ?_)
                  (try simp only [List.getElem_toArray, List.getElem_cons_succ, List.getElem_cons_zero])
                  go_simp
                  refine hK.out _ _ (fun h => absurd h (by decide)) ?_
                  clear hK K
                  (try simp only [Act.put, List.getElem_toArray, List.getElem_cons_succ, List.getElem_cons_zero, List.setIfInBounds_toArray, List.set_cons_zero, List.set_cons_succ])
                  refine wpAnyH_one 14 (by kernel_rfl) rfl (by rfl) (fun K hK => ?_)
                  (try simp only [List.getElem_toArray, List.getElem_cons_succ, List.getElem_cons_zero])
                  go_simp
                  refine hK.out _ _ (fun h => absurd h (by decide)) ?_
                  clear hK K
                  (try simp only [Act.put, List.getElem_toArray, List.getElem_cons_succ, List.getElem_cons_zero, List.setIfInBounds_toArray, List.set_cons_zero, List.set_cons_succ])
                  refine wpAnyH_one 15 (by kernel_rfl) rfl (by rfl) (fun K hK => ?_)
                  (try simp only [List.getElem_toArray, List.getElem_cons_succ, List.getElem_cons_zero])
                  go_simp
                  refine hK.out _ _ (fun h => absurd h (by decide)) ?_
                  clear hK K
                  (try simp only [Act.put, List.getElem_toArray, List.getElem_cons_succ, List.getElem_cons_zero, List.setIfInBounds_toArray, List.set_cons_zero, List.set_cons_succ])
                  refine wpAnyH_done (by kernel_rfl) ?_ _
                  go_wp2
                  go_meet
                  exact ⟨_, Lib.hid ((((HM.out.ext y7).swap rfl huk hup).narrow (fun u hu => List.mem_cons_of_mem _ hu) (fun u hu => by
                    rcases List.mem_cons.1 hu with rfl | hu
                    · exact List.mem_cons_self
                    · exact List.mem_cons_of_mem _ (mem_swap huk hup hu))).ext (ext_drew (Below.refl _ _))), Lib.hid (HBL.out.sub fun u hu => mem_swap huk hup hu), Lib.hid ((((Fr.of_ext y7).swap rfl kk p _ _).trans (Fr.of_ext (ext_drew (Below.refl _ _)))).sub fun u hu => swap_mem huk hup hu), ext_drew (swap_ext (hx.trans y7) hbv _ _)⟩
                case rest =>
                  clear HS hup huk HE hz1' hz0' x7 y7 hy HSG
                  obtain ⟨us', HM', HBL', HFR', hx'⟩ := hcut
                  obtain ⟨gk, ck, huk, hck, hfk, hgvl, hgkl, hgvk, hbv, hbk⟩ := HM'.out.row_of hkp (by omega)
                  obtain ⟨ng, A1, k1, c1, A2, k2, c2, e0, e1, e2, _, _, _, he, ha1, ha2⟩ := HM'.out.ent_at huk hcC
                  have HFS := Lib.hid (fbm_swp HFB.out hkp hpn)
                  have hq1 : swp s.m kk p kk c = s.m p c := by rw [swp_at, if_pos rfl]
                  rw [hq1] at he
                  have HQ1 := Lib.hid hq1
                  have HFQ := Lib.hid (HFB.out p c hpn hcC)
                  have hs2 : W1.heap.size ≤ wc.heap.size := Nat.le_trans hs1 HFR'.out.1
                  clear hq1
                  obtain ⟨S1, hS1⟩ : ∃ S1, S1 = swp s.m kk p := ⟨_, rfl⟩
                  rw [← hS1] at HM' HFS HQ1
                  have HS1 := Lib.hid hS1
                  obtain ⟨q, hqq⟩ : ∃ q, q = s.m p c := ⟨_, rfl⟩
                  rw [← hqq] at he HQ1 HFQ
                  have HQN := Lib.hid (show q ≠ 0 from by rw [hqq]; exact HQ.out)
                  clear hS1 hqq
                  go_upto_region 24 with (fail)
                  have hPB := FBox.new wc (.bool ng) (.slice A1 k1 c1) (.slice A2 k2 c2) 34
                  have xP : Ext wc (wc.alloc (.cells #[.bool ng, .slice A1 k1 c1, .slice A2 k2 c2] 34)) := ext_alloc (Below.refl _ _) _
                  generalize wc.alloc (.cells #[.bool ng, .slice A1 k1 c1, .slice A2 k2 c2] 34) = W2 at *
                  obtain ⟨BP, hBP⟩ : ∃ BP, BP = wc.heap.size := ⟨_, rfl⟩
                  rw [← hBP] at hPB hs2 ⊢
                  have HP := Lib.hid (fun (w' : World) (h : Fr (.slice (some ⟨gv, 0, none⟩) n cV) us' W2 w') => (⟨hPB.fr h (HBL'.out.not hs2), ((he.below xP).fr h (ha1.sub fun u hu => List.mem_cons_of_mem _ hu) (ha2.sub fun u hu => List.mem_cons_of_mem _ hu)).any HFQ.out (by omega) (by omega)⟩ : FBox w' BP (.bool ng) (.slice A1 k1 c1) (.slice A2 k2 c2) ∧ AnyF w' ng (.slice A1 k1 c1) (.slice A2 k2 c2) q 40353607000))
                  have HM2 := Lib.hid (HM'.out.ext xP)
                  have HF2 := Lib.hid (HFR'.out.trans (Fr.of_ext xP))
                  have hx2 : Ext w W2 := hx'.trans xP
                  have HUK := Lib.hid huk
                  obtain ⟨t0, t1, t2, t3⟩ : W2.cell? ⟨gv, kk, none⟩ = some (.slice (some ⟨gk, 0, none⟩) C ck) ∧ True ∧ True ∧ True := ⟨(xP.cell (p := ⟨gv, kk, none⟩) hgvl).trans hck, trivial, trivial, trivial⟩
                  clear e0 e1 e2 hck hfk he ha1 ha2 hPB xP hBP HM' HFR' hx' huk hgvl hgkl
                  go_wp2
                  go_loopw [98] (fun iv wr => ∃ j : Nat, j ≤ C ∧ iv = .int .i64 j ∧ Hid (MatO true w.heap.size wr (.slice (some ⟨gv, 0, none⟩) n cV) n C us' (.slice AL kk cL :: us') (fun i' j' => if i' = kk ∧ j' < j then S1 kk j' / q else S1 i' j')) ∧ Hid (Fr (.slice (some ⟨gv, 0, none⟩) n cV) us' W2 wr) ∧ Ext w wr) (fun iv _ => C - (intOf iv).toNat)
                  case atStart => exact ⟨0, Nat.zero_le _, rfl, Lib.hid (HM2.out.congr fun i' j' _ _ => (if_neg (by omega)).symm), Lib.hid (Fr.refl _ _ _), hx2⟩
                  case round =>
                    clear HM2 hx2 t0 t1 t2 t3
                    obtain ⟨j, hj', rfl, HMJ, HFJ, hxj⟩ := hrel
                    by_cases hjC : j < C
                    · obtain ⟨gk0, ck0, huk0, hck, hfk, hgvl, hgkl, _, _, _⟩ := HMJ.out.row_of hkp (by omega)
                      rw [HUK.out] at huk0
                      injection huk0 with huk0
                      injection huk0 with h1 h2 h3
                      injection h1 with h1
                      injection h1 with h1
                      subst h1 h3
                      obtain ⟨ne, E1, l1, d1, E2, l2, d2, e0, e1, e2, f0, f1, f2, he, _, _⟩ := HMJ.out.ent_at HUK.out hjC
                      rw [if_neg (by omega)] at he
                      have HE := Lib.hid (he.any (HFS.out kk j hkp hjC) (by omega) (by omega))
                      obtain ⟨⟨p0, p1, p2, _, _, _⟩, hpa⟩ := HP.out _ HFJ.out
                      have hPl : BP < wr.heap.size := World.block_lt_of_cell? _ _ p0
                      have HPA := Lib.hid hpa
                      have hj1 : (0 : Int) ≤ (j : Int) := by omega
                      have hj2 : (j : Int) < (C : Int) := by omega
                      have hi3 : (0 : Int) ≤ (kk : Int) := by omega
                      have hi4 : (kk : Int) < (n : Int) := by omega
                      have HS := Lib.hid (fun (w' : World) (h : Ext wr w') => (⟨(h.cell (p := ⟨gv, kk, none⟩) hgvl).trans hck, (h.cell (p := ⟨gk, j * 3, none⟩) hgkl).trans e0, (h.cell (p := ⟨gk, j * 3 + 1, none⟩) hgkl).trans e1, (h.cell (p := ⟨gk, j * 3 + 2, none⟩) hgkl).trans e2, (h.cell (p := ⟨BP, 0, none⟩) hPl).trans p0, (h.cell (p := ⟨BP, 1, none⟩) hPl).trans p1, (h.cell (p := ⟨BP, 2, none⟩) hPl).trans p2⟩ : w'.cell? ⟨gv, kk, none⟩ = some (.slice (some ⟨gk, 0, none⟩) C ck) ∧ w'.cell? ⟨gk, j * 3, none⟩ = some (.bool ne) ∧ w'.cell? ⟨gk, j * 3 + 1, none⟩ = some (.slice E1 l1 d1) ∧ w'.cell? ⟨gk, j * 3 + 2, none⟩ = some (.slice E2 l2 d2) ∧ w'.cell? ⟨BP, 0, none⟩ = some (.bool ng) ∧ w'.cell? ⟨BP, 1, none⟩ = some (.slice A1 k1 c1) ∧ w'.cell? ⟨BP, 2, none⟩ = some (.slice A2 k2 c2)))
                      have HZf := Lib.hid (fun (w' : World) (h : Ext wr w') => (⟨(h.frozen (p := ⟨gk, j * 3, none⟩) hgkl).trans f0, (h.frozen (p := ⟨gk, j * 3 + 1, none⟩) hgkl).trans f1, (h.frozen (p := ⟨gk, j * 3 + 2, none⟩) hgkl).trans f2⟩ : w'.frozen? ⟨gk, j * 3, none⟩ = false ∧ w'.frozen? ⟨gk, j * 3 + 1, none⟩ = false ∧ w'.frozen? ⟨gk, j * 3 + 2, none⟩ = false))
                      clear e0 e1 e2 f0 f1 f2 p0 p1 p2 hck hfk he hpa
                      go_upto_region 27 with (fail)
                      refine wp_region_H (fun w' => Ext wr w') [18] (by kernel_rfl) ?_
                      have gS : Ext wr wr.drew := (Below.refl _ _).drew
                      refine wpAnyH_take 0 (v := ?_) rfl (by kernel_rfl) (by kernel_rfl) (by kernel_rfl) (by kernel_rfl) (by kernel_rfl) (fun _ _ _ h => h) (by rfl) (fun w' hw' => ?_) gS ?_
                      rotate_left
                      focus (go_simp; (try with_reducible rfl); done)
                      (try simp only [Act.put, List.getElem_toArray, List.getElem_cons_succ, List.getElem_cons_zero, List.setIfInBounds_toArray, List.set_cons_zero, List.set_cons_succ])
                      refine wpAnyH_take 1 (v := ?_) rfl (by kernel_rfl) (by kernel_rfl) (by kernel_rfl) (by kernel_rfl) (by kernel_rfl) (fun _ _ _ h => h) (by rfl) (fun w' hw' => ?_) gS ?_
                      rotate_left
                      focus (go_simp; (try with_reducible rfl); done)
                      (try simp only [Act.put, List.getElem_toArray, List.getElem_cons_succ, List.getElem_cons_zero, List.setIfInBounds_toArray, List.set_cons_zero, List.set_cons_succ])
                      refine wpAnyH_take 2 (v := ?_) rfl (by kernel_rfl) (by kernel_rfl) (by kernel_rfl) (by kernel_rfl) (by kernel_rfl) (fun _ _ _ h => h) (by rfl) (fun w' hw' => ?_) gS ?_
                      rotate_left
                      focus (go_simp; (try with_reducible rfl); done)
                      (try simp only [Act.put, List.getElem_toArray, List.getElem_cons_succ, List.getElem_cons_zero, List.setIfInBounds_toArray, List.set_cons_zero, List.set_cons_succ])
                      refine wpAnyH_take 3 (v := ?_) rfl (by kernel_rfl) (by kernel_rfl) (by kernel_rfl) (by kernel_rfl) (by kernel_rfl) (fun _ _ _ h => h) (by rfl) (fun w' hw' => ?_) gS ?_
                      rotate_left
                      focus (have hh := HS.out _ hw'; go_split_ands; go_simp; (try with_reducible rfl); done)
                      (try simp only [Act.put, List.getElem_toArray, List.getElem_cons_succ, List.getElem_cons_zero, List.setIfInBounds_toArray, List.set_cons_zero, List.set_cons_succ])
                      refine wpAnyH_take 4 (v := ?_) rfl (by kernel_rfl) (by kernel_rfl) (by kernel_rfl) (by kernel_rfl) (by kernel_rfl) (fun _ _ _ h => h) (by rfl) (fun w' hw' => ?_) gS ?_
                      rotate_left
                      focus (go_simp; (try with_reducible rfl); done)
                      (try simp only [Act.put, List.getElem_toArray, List.getElem_cons_succ, List.getElem_cons_zero, List.setIfInBounds_toArray, List.set_cons_zero, List.set_cons_succ])
                      refine wpAnyH_take 5 (v := ?_) rfl (by kernel_rfl) (by kernel_rfl) (by kernel_rfl) (by kernel_rfl) (by kernel_rfl) (fun _ _ _ h => h) (by rfl) (fun w' hw' => ?_) gS ?_
                      rotate_left
                      focus (go_simp; (try with_reducible rfl); done)
                      (try simp only [Act.put, List.getElem_toArray, List.getElem_cons_succ, List.getElem_cons_zero, List.setIfInBounds_toArray, List.set_cons_zero, List.set_cons_succ])
                      refine wpAnyH_take 6 (v := ?_) rfl (by kernel_rfl) (by kernel_rfl) (by kernel_rfl) (by kernel_rfl) (by kernel_rfl) (fun _ _ _ h => h) (by rfl) (fun w' hw' => ?_) gS ?_
                      rotate_left
                      focus (go_simp; (try with_reducible rfl); done)
                      (try simp only [Act.put, List.getElem_toArray, List.getElem_cons_succ, List.getElem_cons_zero, List.setIfInBounds_toArray, List.set_cons_zero, List.set_cons_succ])
                      refine wpAnyH_take 7 (v := ?_) rfl (by kernel_rfl) (by kernel_rfl) (by kernel_rfl) (by kernel_rfl) (by kernel_rfl) (fun _ _ _ h => h) (by rfl) (fun w' hw' => ?_) gS ?_
                      rotate_left
                      focus (go_simp; (try with_reducible rfl); done)
                      (try simp only [Act.put, List.getElem_toArray, List.getElem_cons_succ, List.getElem_cons_zero, List.setIfInBounds_toArray, List.set_cons_zero, List.set_cons_succ])
                      refine wpAnyH_take 8 (v := ?_) rfl (by kernel_rfl) (by kernel_rfl) (by kernel_rfl) (by kernel_rfl) (by kernel_rfl) (fun _ _ _ h => h) (by rfl) (fun w' hw' => ?_) gS ?_
                      rotate_left
                      focus (have hh := HS.out _ hw'; go_split_ands; go_simp; (try with_reducible rfl); done)
                      (try simp only [Act.put, List.getElem_toArray, List.getElem_cons_succ, List.getElem_cons_zero, List.setIfInBounds_toArray, List.set_cons_zero, List.set_cons_succ])
                      refine wpAnyH_take 9 (v := ?_) rfl (by kernel_rfl) (by kernel_rfl) (by kernel_rfl) (by kernel_rfl) (by kernel_rfl) (fun _ _ _ h => h) (by rfl) (fun w' hw' => ?_) gS ?_
                      rotate_left
                      focus (go_simp; (try with_reducible rfl); done)
                      (try simp only [Act.put, List.getElem_toArray, List.getElem_cons_succ, List.getElem_cons_zero, List.setIfInBounds_toArray, List.set_cons_zero, List.set_cons_succ])
                      refine wpAnyH_take 10 (v := ?_) rfl (by kernel_rfl) (by kernel_rfl) (by kernel_rfl) (by kernel_rfl) (by kernel_rfl) (fun _ _ _ h => h) (by rfl) (fun w' hw' => ?_) gS ?_
                      rotate_left
                      focus (go_simp; (try with_reducible rfl); done)
                      (try simp only [Act.put, List.getElem_toArray, List.getElem_cons_succ, List.getElem_cons_zero, List.setIfInBounds_toArray, List.set_cons_zero, List.set_cons_succ])
                      refine wpAnyH_take 11 (v := ?_) rfl (by kernel_rfl) (by kernel_rfl) (by kernel_rfl) (by kernel_rfl) (by kernel_rfl) (fun _ _ _ h => h) (by rfl) (fun w' hw' => ?_) gS ?_
                      rotate_left
                      focus (have hh := HS.out _ hw'; go_split_ands; go_simp; (try with_reducible rfl); done)
                      (try simp only [Act.put, List.getElem_toArray, List.getElem_cons_succ, List.getElem_cons_zero, List.setIfInBounds_toArray, List.set_cons_zero, List.set_cons_succ])
                      refine wpAnyH_take 12 (v := ?_) rfl (by kernel_rfl) (by kernel_rfl) (by kernel_rfl) (by kernel_rfl) (by kernel_rfl) (fun _ _ _ h => h) (by rfl) (fun w' hw' => ?_) gS ?_
                      rotate_left
                      focus (have hh := HS.out _ hw'; go_split_ands; go_simp; (try with_reducible rfl); done)
                      (try simp only [Act.put, List.getElem_toArray, List.getElem_cons_succ, List.getElem_cons_zero, List.setIfInBounds_toArray, List.set_cons_zero, List.set_cons_succ])
                      refine wpAnyH_one 13 (by kernel_rfl) rfl (by rfl) (fun K hK => ?_)
                      (try simp only [List.getElem_toArray, List.getElem_cons_succ, List.getElem_cons_zero])
                      go_simp
                      have gQ := gS
                      go_at_call 50
                      refine (div_ok (HE.out.below gS) (HPA.out.below gS) (by omega) HQN.out).mono ?_
                      rintro _ s7 ⟨b7, A7, k7, c7, B7, l7, d7, rfl, h7, x7, n7, m7⟩
                      have gS : Ext wr s7 := Ext.trans gS x7
                      have gR := gS
                      (try go_wp2_with fail)
                      refine hK.out _ _ (fun _ => gS) ?_
                      clear hK K
                      (try simp only [Act.put, List.getElem_toArray, List.getElem_cons_succ, List.getElem_cons_zero, List.setIfInBounds_toArray, List.set_cons_zero, List.set_cons_succ])
                      refine wpAnyH_take 14 (v := ?_) rfl (by kernel_rfl) (by kernel_rfl) (by kernel_rfl) (by kernel_rfl) (by kernel_rfl) (fun _ _ _ h => h) (by rfl) (fun w' hw' => ?_) gS ?_
                      rotate_left
                      focus (go_simp; (try with_reducible rfl); done)
                      (try simp only [Act.put, List.getElem_toArray, List.getElem_cons_succ, List.getElem_cons_zero, List.setIfInBounds_toArray, List.set_cons_zero, List.set_cons_succ])
                      refine wpAnyH_take 15 (v := ?_) rfl (by kernel_rfl) (by kernel_rfl) (by kernel_rfl) (by kernel_rfl) (by kernel_rfl) (fun _ _ _ h => h) (by rfl) (fun w' hw' => ?_) gS ?_
                      rotate_left
                      focus (go_simp; (try with_reducible rfl); done)
                      (try simp only [Act.put, List.getElem_toArray, List.getElem_cons_succ, List.getElem_cons_zero, List.setIfInBounds_toArray, List.set_cons_zero, List.set_cons_succ])
                      refine wpAnyH_takeF 16 (v := ?_) rfl (by kernel_rfl) (by kernel_rfl) (by kernel_rfl) (by kernel_rfl) (fun _ _ _ h => h) (by rfl) (fun w' => ?_) ?_
                      rotate_left
                      focus (go_simp; (try with_reducible rfl); done)
                      (try simp only [Act.put, List.getElem_toArray, List.getElem_cons_succ, List.getElem_cons_zero, List.setIfInBounds_toArray, List.set_cons_zero, List.set_cons_succ])
                      refine wpAnyH_take 17 (v := ?_) rfl (by kernel_rfl) (by kernel_rfl) (by kernel_rfl) (by kernel_rfl) (by kernel_rfl) (fun _ _ _ h => h) (by rfl) (fun w' hw' => ?_) gS ?_
                      rotate_left
                      focus (go_simp; (try with_reducible rfl); done)
                      (try simp only [Act.put, List.getElem_toArray, List.getElem_cons_succ, List.getElem_cons_zero, List.setIfInBounds_toArray, List.set_cons_zero, List.set_cons_succ])
                      obtain ⟨_, q0, q1, q2, _⟩ := HS.out _ gS
                      obtain ⟨z0, z1, z2⟩ := HZf.out _ gS
                      refine wpAnyH_one 18 (by kernel_rfl) rfl (by rfl) (fun K hK => ?_)
                      (try simp only [List.getElem_toArray, List.getElem_cons_succ, List.getElem_cons_zero])
                      go_simp
                      refine hK.out _ _ (fun h => absurd h (by decide)) ?_
                      clear hK K
                      (try simp only [Act.put, List.getElem_toArray, List.getElem_cons_succ, List.getElem_cons_zero, List.setIfInBounds_toArray, List.set_cons_zero, List.set_cons_succ])
                      refine wpAnyH_done (by kernel_rfl) ?_ _
                      go_wp2
                      go_roundw
                      case rel => exact ⟨j + 1, by omega, by go_num, Lib.hid ((HMJ.out.put gR HUK.out hjC (.inl h7) (n7.mono gQ.size) (m7.mono gQ.size)).congr fun i' j' _ _ => upd_row), Lib.hid ((HFJ.out.trans (Fr.of_ext gR)).put HUK.out j _ _ _), put_ext (hxj.trans gR) hbk _ _ _⟩
                      case measure => simp [intOf]; omega
                    · obtain rfl : C = j := by omega
                      have hjj : ¬ ((C : Int) < (C : Int)) := by omega
                      obtain ⟨W3, hW3⟩ : ∃ W3, W3 = wr := ⟨_, rfl⟩
                      subst hW3
                      obtain ⟨S2, hS2⟩ : ∃ S2, S2 = scl S1 kk c := ⟨_, rfl⟩
                      have HM3 := Lib.hid (HMJ.out.congr (M' := S2) fun i' j' _ hj' => by rw [hS2]; exact scl_of HQ1.out hj')
                      have HF3 := Lib.hid (HF2.out.trans HFJ.out)
                      have HFS2 := Lib.hid (show FBm S2 n C 80707214000 from by rw [hS2]; exact (fbm_scl HFS.out (by omega) hkp hcC).mono (by omega))
                      have HS2 := Lib.hid hS2
                      clear HMJ HFJ HP HF2 HFS HQ1 HFQ HQN HFB hS2 hs2
                      go_wp2
                      go_loopw [122] (fun iv wr => ∃ i : Nat, i ≤ n ∧ iv = .int .i64 i ∧ Hid (MatO true w.heap.size wr (.slice (some ⟨gv, 0, none⟩) n cV) n C us' (.slice AL kk cL :: us') (fun i' j' => if i' < i then elm S2 kk c i' j' else S2 i' j')) ∧ Hid (Fr (.slice (some ⟨gv, 0, none⟩) n cV) us' wo wr) ∧ Ext w wr) (fun iv _ => n - (intOf iv).toNat)
                      case atStart => exact ⟨0, Nat.zero_le _, rfl, Lib.hid (HM3.out.congr fun i' j' _ _ => (if_neg (Nat.not_lt_zero _)).symm), HF3, hxj⟩
                      case round =>
                        clear HM3 hxj HF3
                        obtain ⟨i, hi', rfl, HMI, HFI, hxi⟩ := hrel
                        by_cases hin : i < n
                        · obtain ⟨gi, ci, hui, hci, hfi, hgvl, hgil, _, _, hbi⟩ := HMI.out.row_of hin (by omega)
                          have hi1 : (0 : Int) ≤ (i : Int) := by omega
                          have hi2 : (i : Int) < (n : Int) := by omega
                          by_cases hik : i = kk
                          · subst hik
                            go_wp2
                            go_roundw
                            case rel => exact ⟨i + 1, by omega, by go_num, Lib.hid (HMI.out.congr fun i' j' _ _ => elm_skip rfl), HFI, hxi⟩
                            case measure => simp [intOf]; omega
                          · have hie : ((i : Int) == (kk : Int)) = false := by rw [beq_eq_false_iff_ne]; omega
                            have hie' : ¬ ((i : Int) = (kk : Int)) := by omega
                            obtain ⟨ng, A1, k1, c1, A2, k2, c2, e0, e1, e2, _, _, _, he, ha1, ha2⟩ := HMI.out.ent_at hui hcC
                            rw [if_neg (Nat.lt_irrefl i)] at he
                            have HUI := Lib.hid hui
                            have hs3 : W1.heap.size ≤ wr.heap.size := Nat.le_trans hs1 HFI.out.1
                            go_upto_region 34 with (fail)
                            have hPB := FBox.new wr (.bool ng) (.slice A1 k1 c1) (.slice A2 k2 c2) 34
                            have xP : Ext wr (wr.alloc (.cells #[.bool ng, .slice A1 k1 c1, .slice A2 k2 c2] 34)) := ext_alloc (Below.refl _ _) _
                            generalize wr.alloc (.cells #[.bool ng, .slice A1 k1 c1, .slice A2 k2 c2] 34) = W4 at *
                            obtain ⟨BY, hBY⟩ : ∃ BY, BY = wr.heap.size := ⟨_, rfl⟩
                            rw [← hBY] at hPB hs3 ⊢
                            have HP := Lib.hid (fun (w' : World) (h : Fr (.slice (some ⟨gv, 0, none⟩) n cV) us' W4 w') => (⟨hPB.fr h (HBL'.out.not hs3), ((he.below xP).fr h (ha1.sub fun u hu => List.mem_cons_of_mem _ hu) (ha2.sub fun u hu => List.mem_cons_of_mem _ hu)).any (HFS2.out i c hin hcC) (by omega) (by omega)⟩ : FBox w' BY (.bool ng) (.slice A1 k1 c1) (.slice A2 k2 c2) ∧ AnyF w' ng (.slice A1 k1 c1) (.slice A2 k2 c2) (S2 i c) 80707214000))
                            have HM4 := Lib.hid (HMI.out.ext xP)
                            have HF4 := Lib.hid (HFI.out.trans (Fr.of_ext xP))
                            have hx4 : Ext w W4 := hxi.trans xP
                            clear e0 e1 e2 hci hfi he ha1 ha2 hPB xP hBY HMI HFI hxi hui hgvl hgil hs3
                            go_wp2
                            go_loopw [136] (fun iv wr => ∃ j : Nat, j ≤ C ∧ iv = .int .i64 j ∧ Hid (MatO true w.heap.size wr (.slice (some ⟨gv, 0, none⟩) n cV) n C us' (.slice AL kk cL :: us') (fun i' j' => if i' = i ∧ j' < j then elm S2 kk c i' j' else if i' < i then elm S2 kk c i' j' else S2 i' j')) ∧ Hid (Fr (.slice (some ⟨gv, 0, none⟩) n cV) us' W4 wr) ∧ Ext w wr) (fun iv _ => C - (intOf iv).toNat)
                            case atStart => exact ⟨0, Nat.zero_le _, rfl, Lib.hid (HM4.out.congr fun i' j' _ _ => (if_neg (fun h => Nat.not_lt_zero _ h.2)).symm), Lib.hid (Fr.refl _ _ _), hx4⟩
                            case round =>
                              clear HM4 hx4
                              obtain ⟨j, hj', rfl, HMJ, HFJ, hxj⟩ := hrel
                              by_cases hjC : j < C
                              · obtain ⟨gk0, ck0, huk0, hck, hfk, hgvl, hgkl, _, _, _⟩ := HMJ.out.row_of hkp (by omega)
                                rw [HUK.out] at huk0
                                injection huk0 with huk0
                                injection huk0 with h1 h2 h3
                                injection h1 with h1
                                injection h1 with h1
                                subst h1 h3
                                obtain ⟨ne, E1, l1, d1, E2, l2, d2, e0, e1, e2, f0, f1, f2, he, _, _⟩ := HMJ.out.ent_at HUI.out hjC
                                rw [if_neg (fun h => Nat.lt_irrefl j h.2), if_neg (Nat.lt_irrefl i)] at he
                                obtain ⟨nz, Z1, m1, b1, Z2, m2, b2, z0, z1, z2, _, _, _, hze, _, _⟩ := HMJ.out.ent_at HUK.out hjC
                                have hkz : (if kk = i ∧ j < j then elm S2 kk c kk j else if kk < i then elm S2 kk c kk j else S2 kk j) = S2 kk j := by
                                  rw [if_neg (fun h => Nat.lt_irrefl j h.2), elm_at, if_pos rfl]
                                  split <;> rfl
                                rw [hkz] at hze
                                have HE := Lib.hid (he.any (HFS2.out i j hin hjC) (by omega) (by omega))
                                have HZE := Lib.hid (hze.any (HFS2.out kk j hkp hjC) (by omega) (by omega))
                                have HFI1 := Lib.hid (HFS2.out i j hin hjC)
                                have HFM := Lib.hid (FB.mul (HFS2.out i c hin hcC) (HFS2.out kk j hkp hjC) (by omega))
                                obtain ⟨⟨p0, p1, p2, _, _, _⟩, hpa⟩ := HP.out _ HFJ.out
                                have hPl : BY < wr.heap.size := World.block_lt_of_cell? _ _ p0
                                have hgil : gi < wr.heap.size := World.block_lt_of_cell? _ _ e0
                                have HPA := Lib.hid hpa
                                have hj1 : (0 : Int) ≤ (j : Int) := by omega
                                have hj2 : (j : Int) < (C : Int) := by omega
                                have hi3 : (0 : Int) ≤ (kk : Int) := by omega
                                have hi4 : (kk : Int) < (n : Int) := by omega
                                have HS := Lib.hid (fun (w' : World) (h : Ext wr w') => (⟨(h.cell (p := ⟨gv, kk, none⟩) hgvl).trans hck, ⟨(h.cell (p := ⟨gi, j * 3, none⟩) hgil).trans e0, (h.cell (p := ⟨gi, j * 3 + 1, none⟩) hgil).trans e1, (h.cell (p := ⟨gi, j * 3 + 2, none⟩) hgil).trans e2⟩, ⟨(h.cell (p := ⟨gk, j * 3, none⟩) hgkl).trans z0, (h.cell (p := ⟨gk, j * 3 + 1, none⟩) hgkl).trans z1, (h.cell (p := ⟨gk, j * 3 + 2, none⟩) hgkl).trans z2⟩, (h.cell (p := ⟨BY, 0, none⟩) hPl).trans p0, (h.cell (p := ⟨BY, 1, none⟩) hPl).trans p1, (h.cell (p := ⟨BY, 2, none⟩) hPl).trans p2⟩ : w'.cell? ⟨gv, kk, none⟩ = some (.slice (some ⟨gk, 0, none⟩) C ck) ∧ (w'.cell? ⟨gi, j * 3, none⟩ = some (.bool ne) ∧ w'.cell? ⟨gi, j * 3 + 1, none⟩ = some (.slice E1 l1 d1) ∧ w'.cell? ⟨gi, j * 3 + 2, none⟩ = some (.slice E2 l2 d2)) ∧ (w'.cell? ⟨gk, j * 3, none⟩ = some (.bool nz) ∧ w'.cell? ⟨gk, j * 3 + 1, none⟩ = some (.slice Z1 m1 b1) ∧ w'.cell? ⟨gk, j * 3 + 2, none⟩ = some (.slice Z2 m2 b2)) ∧ w'.cell? ⟨BY, 0, none⟩ = some (.bool ng) ∧ w'.cell? ⟨BY, 1, none⟩ = some (.slice A1 k1 c1) ∧ w'.cell? ⟨BY, 2, none⟩ = some (.slice A2 k2 c2)))
                                have HZf := Lib.hid (fun (w' : World) (h : Ext wr w') => (⟨(h.frozen (p := ⟨gi, j * 3, none⟩) hgil).trans f0, (h.frozen (p := ⟨gi, j * 3 + 1, none⟩) hgil).trans f1, (h.frozen (p := ⟨gi, j * 3 + 2, none⟩) hgil).trans f2⟩ : w'.frozen? ⟨gi, j * 3, none⟩ = false ∧ w'.frozen? ⟨gi, j * 3 + 1, none⟩ = false ∧ w'.frozen? ⟨gi, j * 3 + 2, none⟩ = false))
                                clear e0 e1 e2 f0 f1 f2 z0 z1 z2 p0 p1 p2 hck hfk he hze hpa hkz
                                go_upto_region 37 with (fail)
                                refine wp_region_G (fun w' => Ext wr w') [17] (by kernel_rfl) ?_
                                have gS : Ext wr wr.drew := (Below.refl _ _).drew
                                refine wpAnyG_take 0 (v := ?_) rfl (by kernel_rfl) (by kernel_rfl) (by kernel_rfl) (by kernel_rfl) (by rfl) (by kernel_rfl) (fun _ _ _ h => h) (by rfl) (fun w' hw' => ?_) gS ?_
                                rotate_left
                                focus (go_simp; (try with_reducible rfl); done)
                                (try simp only [Act.put, List.getElem_toArray, List.getElem_cons_succ, List.getElem_cons_zero, List.setIfInBounds_toArray, List.set_cons_zero, List.set_cons_succ])
                                refine wpAnyG_take 1 (v := ?_) rfl (by kernel_rfl) (by kernel_rfl) (by kernel_rfl) (by kernel_rfl) (by rfl) (by kernel_rfl) (fun _ _ _ h => h) (by rfl) (fun w' hw' => ?_) gS ?_
                                rotate_left
                                focus (go_simp; (try with_reducible rfl); done)
                                (try simp only [Act.put, List.getElem_toArray, List.getElem_cons_succ, List.getElem_cons_zero, List.setIfInBounds_toArray, List.set_cons_zero, List.set_cons_succ])
                                refine wpAnyG_take 2 (v := ?_) rfl (by kernel_rfl) (by kernel_rfl) (by kernel_rfl) (by kernel_rfl) (by rfl) (by kernel_rfl) (fun _ _ _ h => h) (by rfl) (fun w' hw' => ?_) gS ?_
                                rotate_left
                                focus (go_simp; (try with_reducible rfl); done)
                                (try simp only [Act.put, List.getElem_toArray, List.getElem_cons_succ, List.getElem_cons_zero, List.setIfInBounds_toArray, List.set_cons_zero, List.set_cons_succ])
                                refine wpAnyG_take 3 (v := ?_) rfl (by kernel_rfl) (by kernel_rfl) (by kernel_rfl) (by kernel_rfl) (by rfl) (by kernel_rfl) (fun _ _ _ h => h) (by rfl) (fun w' hw' => ?_) gS ?_
                                rotate_left
                                focus (go_simp; (try with_reducible rfl); done)
                                (try simp only [Act.put, List.getElem_toArray, List.getElem_cons_succ, List.getElem_cons_zero, List.setIfInBounds_toArray, List.set_cons_zero, List.set_cons_succ])
                                refine wpAnyG_take 4 (v := ?_) rfl (by kernel_rfl) (by kernel_rfl) (by kernel_rfl) (by kernel_rfl) (by rfl) (by kernel_rfl) (fun _ _ _ h => h) (by rfl) (fun w' hw' => ?_) gS ?_
                                rotate_left
                                focus (go_simp; (try with_reducible rfl); done)
                                (try simp only [Act.put, List.getElem_toArray, List.getElem_cons_succ, List.getElem_cons_zero, List.setIfInBounds_toArray, List.set_cons_zero, List.set_cons_succ])
                                refine wpAnyG_take 5 (v := ?_) rfl (by kernel_rfl) (by kernel_rfl) (by kernel_rfl) (by kernel_rfl) (by rfl) (by kernel_rfl) (fun _ _ _ h => h) (by rfl) (fun w' hw' => ?_) gS ?_
                                rotate_left
                                focus (have hh := HS.out _ hw'; go_split_ands; go_simp; (try with_reducible rfl); done)
                                (try simp only [Act.put, List.getElem_toArray, List.getElem_cons_succ, List.getElem_cons_zero, List.setIfInBounds_toArray, List.set_cons_zero, List.set_cons_succ])
                                refine wpAnyG_take 6 (v := ?_) rfl (by kernel_rfl) (by kernel_rfl) (by kernel_rfl) (by kernel_rfl) (by rfl) (by kernel_rfl) (fun _ _ _ h => h) (by rfl) (fun w' hw' => ?_) gS ?_
                                rotate_left
                                focus (have hh := HS.out _ hw'; go_split_ands; go_simp; (try with_reducible rfl); done)
                                (try simp only [Act.put, List.getElem_toArray, List.getElem_cons_succ, List.getElem_cons_zero, List.setIfInBounds_toArray, List.set_cons_zero, List.set_cons_succ])
                                refine wpAnyG_take 7 (v := ?_) rfl (by kernel_rfl) (by kernel_rfl) (by kernel_rfl) (by kernel_rfl) (by rfl) (by kernel_rfl) (fun _ _ _ h => h) (by rfl) (fun w' hw' => ?_) gS ?_
                                rotate_left
                                focus (go_simp; (try with_reducible rfl); done)
                                (try simp only [Act.put, List.getElem_toArray, List.getElem_cons_succ, List.getElem_cons_zero, List.setIfInBounds_toArray, List.set_cons_zero, List.set_cons_succ])
                                refine wpAnyG_take 8 (v := ?_) rfl (by kernel_rfl) (by kernel_rfl) (by kernel_rfl) (by kernel_rfl) (by rfl) (by kernel_rfl) (fun _ _ _ h => h) (by rfl) (fun w' hw' => ?_) gS ?_
                                rotate_left
                                focus (go_simp; (try with_reducible rfl); done)
                                (try simp only [Act.put, List.getElem_toArray, List.getElem_cons_succ, List.getElem_cons_zero, List.setIfInBounds_toArray, List.set_cons_zero, List.set_cons_succ])
                                refine wpAnyG_take 9 (v := ?_) rfl (by kernel_rfl) (by kernel_rfl) (by kernel_rfl) (by kernel_rfl) (by rfl) (by kernel_rfl) (fun _ _ _ h => h) (by rfl) (fun w' hw' => ?_) gS ?_
                                rotate_left
                                focus (go_simp; (try with_reducible rfl); done)
                                (try simp only [Act.put, List.getElem_toArray, List.getElem_cons_succ, List.getElem_cons_zero, List.setIfInBounds_toArray, List.set_cons_zero, List.set_cons_succ])
                                refine wpAnyG_take 10 (v := ?_) rfl (by kernel_rfl) (by kernel_rfl) (by kernel_rfl) (by kernel_rfl) (by rfl) (by kernel_rfl) (fun _ _ _ h => h) (by rfl) (fun w' hw' => ?_) gS ?_
                                rotate_left
                                focus (have hh := HS.out _ hw'; go_split_ands; go_simp; (try with_reducible rfl); done)
                                (try simp only [Act.put, List.getElem_toArray, List.getElem_cons_succ, List.getElem_cons_zero, List.setIfInBounds_toArray, List.set_cons_zero, List.set_cons_succ])
                                refine wpAnyG_take 11 (v := ?_) rfl (by kernel_rfl) (by kernel_rfl) (by kernel_rfl) (by kernel_rfl) (by rfl) (by kernel_rfl) (fun _ _ _ h => h) (by rfl) (fun w' hw' => ?_) gS ?_
                                rotate_left
                                focus (go_simp; (try with_reducible rfl); done)
                                (try simp only [Act.put, List.getElem_toArray, List.getElem_cons_succ, List.getElem_cons_zero, List.setIfInBounds_toArray, List.set_cons_zero, List.set_cons_succ])
                                refine wpAnyG_take 12 (v := ?_) rfl (by kernel_rfl) (by kernel_rfl) (by kernel_rfl) (by kernel_rfl) (by rfl) (by kernel_rfl) (fun _ _ _ h => h) (by rfl) (fun w' hw' => ?_) gS ?_
                                rotate_left
                                focus (go_simp; (try with_reducible rfl); done)
                                (try simp only [Act.put, List.getElem_toArray, List.getElem_cons_succ, List.getElem_cons_zero, List.setIfInBounds_toArray, List.set_cons_zero, List.set_cons_succ])
                                refine wpAnyG_take 13 (v := ?_) rfl (by kernel_rfl) (by kernel_rfl) (by kernel_rfl) (by kernel_rfl) (by rfl) (by kernel_rfl) (fun _ _ _ h => h) (by rfl) (fun w' hw' => ?_) gS ?_
                                rotate_left
                                focus (have hh := HS.out _ hw'; go_split_ands; go_simp; (try with_reducible rfl); done)
                                (try simp only [Act.put, List.getElem_toArray, List.getElem_cons_succ, List.getElem_cons_zero, List.setIfInBounds_toArray, List.set_cons_zero, List.set_cons_succ])
                                refine wpAnyG_one 14 (by kernel_rfl) rfl (by rfl) (fun K hK => ?_)
                                (try simp only [List.getElem_toArray, List.getElem_cons_succ, List.getElem_cons_zero])
                                go_simp
                                go_at_call 49
                                refine (mul_f (HPA.out.below gS) (HZE.out.below gS) (by omega)).mono ?_
                                rintro _ s6 ⟨b6, A6, k6, c6, B6, l6, d6, rfl, h6, x6, n6, m6⟩
                                have gS : Ext wr s6 := Ext.trans gS x6
                                (try go_wp2_with fail)
                                refine hK.out _ _ (fun _ => gS) ?_
                                clear hK K
                                (try simp only [Act.put, List.getElem_toArray, List.getElem_cons_succ, List.getElem_cons_zero, List.setIfInBounds_toArray, List.set_cons_zero, List.set_cons_succ])
                                refine wpAnyG_one 15 (by kernel_rfl) rfl (by rfl) (fun K hK => ?_)
                                (try simp only [List.getElem_toArray, List.getElem_cons_succ, List.getElem_cons_zero])
                                go_simp
                                have gQ := gS
                                go_at_call 51
                                refine (sub_f (HE.out.below gS) (FracV.any h6 HFM.out (by omega)) HFI1.out HFM.out (by omega)).mono ?_
                                rintro _ s7 ⟨b7, A7, k7, c7, B7, l7, d7, rfl, h7, x7, n7, m7⟩
                                have gS : Ext wr s7 := Ext.trans gS x7
                                have gR := gS
                                (try go_wp2_with fail)
                                refine hK.out _ _ (fun _ => gS) ?_
                                clear hK K
                                (try simp only [Act.put, List.getElem_toArray, List.getElem_cons_succ, List.getElem_cons_zero, List.setIfInBounds_toArray, List.set_cons_zero, List.set_cons_succ])
                                refine wpAnyG_take 16 (v := ?_) rfl (by kernel_rfl) (by kernel_rfl) (by kernel_rfl) (by kernel_rfl) (by rfl) (by kernel_rfl) (fun _ _ _ h => h) (by rfl) (fun w' hw' => ?_) gS ?_
                                rotate_left
                                focus (go_simp; (try with_reducible rfl); done)
                                (try simp only [Act.put, List.getElem_toArray, List.getElem_cons_succ, List.getElem_cons_zero, List.setIfInBounds_toArray, List.set_cons_zero, List.set_cons_succ])
                                obtain ⟨z0, z1, z2⟩ := HZf.out _ gS
                                obtain ⟨_, ⟨q0, q1, q2⟩, _⟩ := HS.out _ gS
                                refine wpAnyG_one 17 (by kernel_rfl) rfl (by rfl) (fun K hK => ?_)
                                (try simp only [List.getElem_toArray, List.getElem_cons_succ, List.getElem_cons_zero])
                                go_simp
                                refine hK.out _ _ (fun h => absurd h (by decide)) ?_
                                clear hK K
                                (try simp only [Act.put, List.getElem_toArray, List.getElem_cons_succ, List.getElem_cons_zero, List.setIfInBounds_toArray, List.set_cons_zero, List.set_cons_succ])
                                refine wpAnyG_done (by kernel_rfl) ?_ _
                                go_wp2
                                go_roundw
                                case rel => exact ⟨j + 1, by omega, by go_num, Lib.hid ((HMJ.out.put gR HUI.out hjC (.inl h7) (n7.mono gQ.size) (m7.mono gQ.size)).congr fun i' j' _ _ => elm_upd (S := S2) (T := fun a b => if a < i then elm S2 kk c a b else S2 a b) hik), Lib.hid ((HFJ.out.trans (Fr.of_ext gR)).put HUI.out j _ _ _), put_ext (hxj.trans gR) hbi _ _ _⟩
                                case measure => simp [intOf]; omega
                              · obtain rfl : C = j := by omega
                                have hjj : ¬ ((C : Int) < (C : Int)) := by omega
                                have HM5 := Lib.hid (HMJ.out.congr fun i' j' _ hj' => elm_done hj')
                                have HF5 := Lib.hid (HF4.out.trans HFJ.out)
                                clear HMJ HFJ HF4 HP
                                go_wp2
                                go_roundw
                                case rel => exact ⟨i + 1, by omega, by go_num, HM5, HF5, hxj⟩
                                case measure => simp [intOf]; omega
                        · obtain rfl : n = i := by omega
                          have hii : ¬ ((n : Int) < (n : Int)) := by omega
                          have HM6 := Lib.hid (HMI.out.congr (M' := elm S2 kk c) fun i' j' hi' _ => if_pos hi')
                          have hx5 : W1.heap.size ≤ wr.heap.size := Nat.le_trans hs1 HFI.out.1
                          have HLV6 := Lib.hid (ownsRow_fr HLV.out HFI.out fun b hb => HBL'.out.not (HLV.out.lt b hb).1)
                          obtain ⟨hRm, hRl⟩ := rd_yes HSU.out HKK.out HPV.out hpn HS1.out HS2.out
                          obtain ⟨R, hR⟩ : ∃ R, R = rrefs M n (c + 1) := ⟨_, rfl⟩
                          rw [← hR] at hRm hRl
                          clear HMI HFI HLV HFS2
                          go_wp2_with (at_builtin; refine wpList_append_mine _ (by rfl) (.tmp 158) (.tmp 160) 53 (by rfl) W1.heap.size 3 i1 (.int .i64 0) 1 8 Try.underlying53 hi1' hx0' hx1' hx2' rfl (by omega) _ _ _ (by rfl) (World.ownsRow.kept HLV6.out (Ext.grown (ext_alloc (Below.refl _ _) _)) (by cases AL <;> simp [Value.ownBlock])) ⟨wr.heap.size, 0, none⟩ 1 1 [.int .i64 c] (by rfl) rfl (cell_one wr _ _) (by simp [Value.oneCell']) (by unfold maxLen; omega) (by omega) (by simp; omega) ?_; intro v8 w8 ho8 hg8 hw8)
                          have HM8 := Lib.hid ((HM6.out.ext (ext_alloc (Below.refl _ _) _)).other (fun u hu => hu) (fun b hb => HBL'.out.not (HLV6.out.lt b hb).1) hg8 hw8 (fun b hb => (ho8.lt b hb).2))
                          have hx8 : Ext w w8 := Below.grown (Ext.trans hxi (ext_alloc (Below.refl _ _) _)) hg8 (by simp; omega) fun g hg => Nat.le_trans hw1 (HLV6.out.lt g hg).1
                          have hs8 : W1.heap.size ≤ w8.heap.size := by have := hg8.size; simp at this; omega
                          have HLV8 := Lib.hid (show w8.ownsRow W1.heap.size 3 1 v8 (s.leads ++ [c]).length (i64l ((s.leads ++ [c]).map (fun l : Nat => (l : Int)))) from by
                            rw [List.length_append, List.map_append, List.length_singleton, List.map_singleton, ← i64l_snoc, ← HKK.out]
                            exact ho8)
                          clear ho8 hg8 hw8
                          go_roundw
                          case rel => exact ⟨c + 1, us', by omega, by go_num, by rw [← hR, hRm]; exact HM8, HBL', by rw [← hR, hRl]; exact HLV8, hx8, hs8⟩
                          case measure => simp [intOf]; omega
            · obtain rfl : n = p := by omega
              have hnn : ¬ ((n : Int) < (n : Int)) := by omega
              have hne : ((n : Int) == (n : Int)) = true := by simp
              obtain ⟨hRm, hRl⟩ := rd_no HSU.out HKK.out (piv_eq (M := s.m) (n := n) (c := c) (k := kk) hp1 hp2 hpz (.inl rfl)) rfl
              go_wp2
              go_roundw
              case rel => exact ⟨c + 1, us, by omega, by go_num, by rw [hRm]; exact Lib.hid (HM.out.ext hy), HBL, by rw [hRl, ← HKK.out]; exact Lib.hid (HLV.out.kept (Ext.grown hy) (by cases AL <;> simp [Value.ownBlock])), hx.trans hy, Nat.le_trans hs1 hy.size⟩
              case measure => simp [intOf]; omega
        · obtain rfl : C = c := by omega
          have hcc : ¬ ((C : Int) < (C : Int)) := by omega
          go_wp2
          go_ret2
          exact ⟨_, _, _, _, rfl, HM.out.mat, IntsV.of_own HLV.out, hx⟩

end Go.Proofs.Ytmfigiifflljpaa
