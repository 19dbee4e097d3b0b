/- metal: the reference's Small, Few, Turned. -/
import Derived.Test.YtmfigiifflljpaaMetI
import Derived.Test.YtmfigiifflljpaaMetF
set_option linter.unusedVariables false
set_option linter.unusedSimpArgs false
set_option maxRecDepth 100000
namespace Go.Proofs.Ytmfigiifflljpaa
open Go.RowKit Num

/-- What a function that answers a bool gives: whether P. -/
def GivesB (w : World) (P : Prop) (e : Ending) (w' : World) : Prop := ∃ b : Bool, e = .returned (.bool b) ∧ (b = true ↔ P) ∧ Ext w w'
theorem GivesB.t {w : World} {P : Prop} {e : Ending} {w' : World} (h : GivesB w P e w') (hp : P) : e = .returned (.bool true) ∧ Ext w w' := by
  obtain ⟨b, rfl, hb, hx⟩ := h
  rw [hb.2 hp]
  exact ⟨rfl, hx⟩
theorem GivesB.f {w : World} {P : Prop} {e : Ending} {w' : World} (h : GivesB w P e w') (hp : ¬ P) : e = .returned (.bool false) ∧ Ext w w' := by
  obtain ⟨b, rfl, hb, hx⟩ := h
  cases b with
  | true => exact absurd (hb.1 rfl) hp
  | false => exact ⟨rfl, hx⟩
set_option maxHeartbeats 4000000 in
theorem rsmall_l {v : Value} {n : Nat} {F : Nat → FracIn} {w : World} (hv : InFs w v n F) :
    Calls Try.prog 23 #[v] w (GivesB w (smallF n F)) := by
  have HV := Lib.hid (fun (w' : World) (h : Ext w w') => hv.below h)
  obtain ⟨A, c, rfl, h1, h2⟩ := hv.form
  clear hv
  go_enter Try.func23, Try.ntmps23
  go_wp2
  go_loopw [3] (fun iv wr => ∃ k : Nat, (k ≤ n ∧ k ≤ 20) ∧ iv = .int .i64 k ∧ Hid (∀ j, j < k → (F j).nl ≤ 1 ∧ (F j).dl ≤ 1) ∧ Ext w wr) (fun iv _ => 20 - (intOf iv).toNat)
  case atStart => exact ⟨0, ⟨Nat.zero_le _, Nat.zero_le _⟩, rfl, Lib.hid (fun j hj => by omega), Below.refl _ _⟩
  case round =>
    obtain ⟨k, ⟨hk, hk20⟩, rfl, HG, hx⟩ := hrel
    by_cases hkn : k < n
    · have hi1 : (0 : Int) ≤ (k : Int) := by omega
      have hi2 : (k : Int) < (n : Int) := by omega
      by_cases hkt : k < 20
      · have hi3 : (k : Int) < 20 := by omega
        obtain ⟨b, o, A1, c1, A2, c2, rfl, hb, e0, e1, e2⟩ := (HV.out _ hx).at_ hkn
        obtain ⟨nl, hnl⟩ : ∃ nl, nl = (F k).nl := ⟨_, rfl⟩
        obtain ⟨dl, hdl⟩ : ∃ dl, dl = (F k).dl := ⟨_, rfl⟩
        rw [← hnl] at e1
        rw [← hdl] at e2
        have HN := Lib.hid hnl
        have HD := Lib.hid hdl
        clear hnl hdl
        by_cases h1' : 1 < nl
        · have h1i : (1 : Int) < (nl : Int) := by omega
          go_wp2
          go_ret
          refine ⟨false, rfl, ⟨fun h => (by cases h), fun h => ?_⟩, hx⟩
          have := (h.2 k hkn).1
          rw [← HN.out] at this
          omega
        · have h1i : ¬ ((1 : Int) < (nl : Int)) := by omega
          by_cases h2' : 1 < dl
          · have h2i : (1 : Int) < (dl : Int) := by omega
            go_wp2
            go_ret
            refine ⟨false, rfl, ⟨fun h => (by cases h), fun h => ?_⟩, hx⟩
            have := (h.2 k hkn).2
            rw [← HD.out] at this
            omega
          · have h2i : ¬ ((1 : Int) < (dl : Int)) := by omega
            go_wp2
            go_roundw
            case rel => exact ⟨k + 1, ⟨by omega, by omega⟩, by go_num, Lib.hid (fun j hj => by
              by_cases hjk : j = k
              · rw [hjk, ← HN.out, ← HD.out]; omega
              · exact HG.out j (by omega)), hx⟩
            case measure => simp [intOf]; omega
      · obtain rfl : k = 20 := by omega
        have hi3 : ¬ (((20 : Nat) : Int) < 20) := by omega
        have hn20 : ¬ ((n : Int) ≤ 20) := by omega
        have hn21 : (20 : Int) < (n : Int) := by omega
        go_wp2
        go_ret
        exact ⟨false, rfl, ⟨fun h => (by cases h), fun h => (by have := h.1; omega)⟩, hx⟩
    · obtain rfl : n = k := by omega
      have hkk : ¬ ((n : Int) < (n : Int)) := by omega
      have hn20 : (n : Int) ≤ 20 := by omega
      go_wp2
      go_ret
      exact ⟨true, rfl, ⟨fun _ => ⟨hk20, HG.out⟩, fun _ => rfl⟩, hx⟩

def fewM (n : Nat) (len : Nat → Nat) (F : Nat → Nat → FracIn) : Prop := n ≤ 20 ∧ (∀ i, i < n → smallF (len i) (F i) ∧ ¬ (4 < len i ∧ validL (lensOf n len))) ∧ (n ≤ 4 ∨ ¬ validL (lensOf n len))
theorem few_valid {n : Nat} {len : Nat → Nat} {F : Nat → Nat → FracIn} (h : fewM n len F) (hv : validL (lensOf n len)) : n ≤ 4 ∧ ∃ c, c ≤ 4 ∧ (n = 0 → c = 0) ∧ (∀ i, i < n → len i = c) ∧ (∀ i, i < n → smallF (len i) (F i)) ∧ (lensOf n len).headD 0 = c := by
  obtain ⟨h1, h2, h3⟩ := h
  have hn : n ≤ 4 := h3.resolve_right fun h => h hv
  have hat : ∀ i, i < n → len i = (lensOf n len).headD 0 := fun i hi => (hv.1 _ (List.mem_of_getElem? (lensOf_at hi))).1
  refine ⟨hn, (lensOf n len).headD 0, ?_, fun h => by subst h; rfl, hat, fun i hi => (h2 i hi).1, rfl⟩
  by_cases h0 : n = 0
  · subst h0; exact Nat.zero_le _
  · rw [← hat 0 (by omega)]
    have := (h2 0 (by omega)).2
    exact Nat.le_of_not_lt fun h => this ⟨h, hv⟩
set_option maxHeartbeats 8000000 in
theorem rfew_l {v : Value} {n : Nat} {len : Nat → Nat} {F : Nat → Nat → FracIn} {w : World} (hv : InMat w v n len F) :
    Calls Try.prog 12 #[v] w (GivesB w (fewM n len F)) := by
  have HV := Lib.hid (fun (w' : World) (h : Ext w w') => hv.below h)
  obtain ⟨bv, hbv⟩ : ∃ bv, bv = decide (validL (lensOf n len)) := ⟨_, rfl⟩
  have HVL := Lib.hid (fun (w' : World) (h : Ext w w') => rvalid_l (hv.below h).lens)
  rw [← hbv] at HVL
  have HBV := Lib.hid (show bv = true ↔ validL (lensOf n len) from by rw [hbv, decide_eq_true_iff])
  obtain ⟨A, c, rfl, h1, h2⟩ := hv.form
  clear hv hbv
  go_enter Try.func12, Try.ntmps12
  go_wp2
  go_loopw [3] (fun iv wr => ∃ k : Nat, (k ≤ n ∧ k ≤ 20) ∧ iv = .int .i64 k ∧ Hid (∀ i, i < k → smallF (len i) (F i) ∧ ¬ (4 < len i ∧ validL (lensOf n len))) ∧ Ext w wr) (fun iv _ => 20 - (intOf iv).toNat)
  case atStart => exact ⟨0, ⟨Nat.zero_le _, Nat.zero_le _⟩, rfl, Lib.hid (fun j hj => by omega), Below.refl _ _⟩
  case round =>
    obtain ⟨k, ⟨hk, hk20⟩, rfl, HG, hx⟩ := hrel
    by_cases hkn : k < n
    · have hi1 : (0 : Int) ≤ (k : Int) := by omega
      have hi2 : (k : Int) < (n : Int) := by omega
      by_cases hkt : k < 20
      · have hi3 : (k : Int) < 20 := by omega
        obtain ⟨A0, cap, us, e, _, _, hr, hus⟩ := HV.out _ hx
        injection e with e1 e2 e3
        subst e1 e3
        obtain ⟨ad, u, rfl, hb, hu, hc⟩ := hr.at_ (k := k) hkn
        obtain ⟨ad0, u0, e0, _, _, hc0⟩ := hr.at_ (k := 0) (by omega)
        injection e0 with e0
        subst e0
        obtain ⟨bb, o, sp⟩ := ad
        have hsp : sp = none := by have := Go.Proofs.Ytmfigiifflljpaa.cell_spotF hc0; simpa [Addr.add] using this
        subst hsp
        have ha : (⟨bb, o, none⟩ : Addr).add k = ⟨bb, o + k, none⟩ := by
          unfold Addr.add
          by_cases hj : k = 0 <;> simp [hj]
        rw [ha] at hc
        have hrow := hus k u hu
        obtain ⟨l, hl⟩ : ∃ l, l = len k := ⟨_, rfl⟩
        rw [← hl] at hrow
        obtain ⟨A', cp', rfl, _, _⟩ := hrow.form
        have HROW := Lib.hid hrow
        have HL := Lib.hid hl
        have HCC := Lib.hid (fun (w' : World) (h : Ext wr w') => (h.cell (p := ⟨bb, o + k, none⟩) hb).trans hc)
        clear hrow hl hr hus hu hc0
        have hc := HCC.out _ (Below.refl _ _)
        by_cases hs : smallF l (F k)
        · have HSM := Lib.hid hs
          clear hs
          by_cases h4 : 4 < l
          · have h4i : (4 : Int) < (l : Int) := by omega
            cases bv with
            | true =>
              go_wp2_with (first
                | (go_at_call 23; (with_reducible refine (rsmall_l HROW.out).mono ?_); rintro e w1 hgb; obtain ⟨rfl, x1⟩ := hgb.t HSM.out; have hc := HCC.out _ x1)
                | (go_at_call 22; (with_reducible refine (HVL.out _ (hx.trans x1)).mono ?_); rintro e w2 ⟨rfl, x2⟩))
              go_ret
              exact ⟨false, rfl, ⟨fun h => (by cases h), fun h => absurd ⟨by rw [← HL.out]; exact h4, HBV.out.1 (by trivial)⟩ (h.2.1 k hkn).2⟩, hx.trans (x1.trans x2)⟩
            | false =>
              go_wp2_with (first
                | (go_at_call 23; (with_reducible refine (rsmall_l HROW.out).mono ?_); rintro e w1 hgb; obtain ⟨rfl, x1⟩ := hgb.t HSM.out; have hc := HCC.out _ x1)
                | (go_at_call 22; (with_reducible refine (HVL.out _ (hx.trans x1)).mono ?_); rintro e w2 ⟨rfl, x2⟩))
              go_roundw
              case rel => exact ⟨k + 1, ⟨by omega, by omega⟩, by go_num, Lib.hid (fun j hj => by
                by_cases hjk : j = k
                · rw [hjk, ← HL.out]; exact ⟨HSM.out, fun h => absurd (HBV.out.2 h.2) (by decide)⟩
                · exact HG.out j (by omega)), hx.trans (x1.trans x2)⟩
              case measure => simp [intOf]; omega
          · have h4i : ¬ ((4 : Int) < (l : Int)) := by omega
            go_wp2_with (go_at_call 23; (with_reducible refine (rsmall_l HROW.out).mono ?_); rintro e w1 hgb; obtain ⟨rfl, x1⟩ := hgb.t HSM.out; have hc := HCC.out _ x1)
            go_roundw
            case rel => exact ⟨k + 1, ⟨by omega, by omega⟩, by go_num, Lib.hid (fun j hj => by
              by_cases hjk : j = k
              · rw [hjk, ← HL.out]; exact ⟨HSM.out, fun h => h4 h.1⟩
              · exact HG.out j (by omega)), hx.trans x1⟩
            case measure => simp [intOf]; omega
        · have HNS := Lib.hid hs
          clear hs
          go_wp2_with (go_at_call 23; (with_reducible refine (rsmall_l HROW.out).mono ?_); rintro e w1 hgb; obtain ⟨rfl, x1⟩ := hgb.f HNS.out; have hc := HCC.out _ x1)
          go_ret
          exact ⟨false, rfl, ⟨fun h => (by cases h), fun h => absurd (by rw [HL.out]; exact (h.2.1 k hkn).1) HNS.out⟩, hx.trans x1⟩
      · obtain rfl : k = 20 := by omega
        have hi3 : ¬ (((20 : Nat) : Int) < 20) := by omega
        have hn20 : ¬ ((n : Int) ≤ 20) := by omega
        have hn21 : (20 : Int) < (n : Int) := by omega
        go_wp2
        go_ret
        exact ⟨false, rfl, ⟨fun h => (by cases h), fun h => (by have := h.1; omega)⟩, hx⟩
    · obtain rfl : n = k := by omega
      have hkk : ¬ ((n : Int) < (n : Int)) := by omega
      have hn20 : (n : Int) ≤ 20 := by omega
      by_cases hn4 : n ≤ 4
      · have hn4i : (n : Int) ≤ 4 := by omega
        go_wp2
        go_ret
        exact ⟨true, rfl, ⟨fun _ => ⟨hk20, HG.out, .inl hn4⟩, fun _ => rfl⟩, hx⟩
      · have hn4i : ¬ ((n : Int) ≤ 4) := by omega
        have hn4j : (4 : Int) < (n : Int) := by omega
        cases bv with
        | true =>
          go_wp2_with (go_at_call 22; (with_reducible refine (HVL.out _ hx).mono ?_); rintro e w2 ⟨rfl, x2⟩)
          go_ret
          exact ⟨false, rfl, ⟨fun h => (by cases h), fun h => h.2.2.elim (fun h => absurd h hn4) (fun h => absurd (HBV.out.1 (by trivial)) h)⟩, hx.trans x2⟩
        | false =>
          go_wp2_with (go_at_call 22; (with_reducible refine (HVL.out _ hx).mono ?_); rintro e w2 ⟨rfl, x2⟩)
          go_ret
          exact ⟨true, rfl, ⟨fun _ => ⟨hk20, HG.out, .inr fun h => absurd (HBV.out.2 h) (by decide)⟩, fun _ => rfl⟩, hx.trans x2⟩

set_option maxHeartbeats 8000000 in
theorem rturned_n {K : Bool} {v : Value} {n C : Nat} {M : Mx} {w : World} (hv : EMat K w v n C M) (hn : n ≤ 8) (hC : C ≤ 8) (hz : n = 0 → C = 0) :
    Calls Try.prog 33 #[v] w (fun e w' => ∃ A c, e = .returned (.slice A C c) ∧ EMat K w' (.slice A C c) C n (fun i j => M j i) ∧ Ext w w') := by
  have HV := Lib.hid (fun (w' : World) (h : Ext w w') => hv.below h)
  have HC : Hid (∀ wx, Ext w wx → Calls Try.prog 52 #[v] wx (fun e w' => e = .returned (.int .i64 (C : Int)) ∧ w' = wx)) := Lib.hid (fun wx hx => by
    have h := rcols_l (hv.below hx).lens
    have e : (List.replicate n C).headD 0 = C := by
      cases n with
      | zero => simp [hz rfl]
      | succ n => simp [List.replicate_succ]
    rw [e] at h
    exact h)
  obtain ⟨A, cap, rfl, hc1, hc2⟩ := hv.form
  obtain ⟨i0, hi, hz0, hz1, hz2⟩ := info_parts info_frac
  obtain ⟨j0, hj, hy0, hy1, hy2⟩ := info_parts info_fl
  have HV0 := Lib.hid hv
  clear hv hz
  go_enter Try.func33, Try.ntmps33
  go_wp2
  go_loopw [3, 4] (fun mv iv wr => ∃ (c : Nat) (us : List Value), c ≤ C ∧ iv = .int .i64 c ∧ Hid (MatO K w.heap.size wr mv c n us us (fun i j => M j i)) ∧ Ext w wr) (fun _ iv _ => C - (intOf iv).toNat)
  case atStart => exact ⟨0, [], Nat.zero_le _, rfl, Lib.hid (MatO.nil_ _ _ _ _ _), Below.refl _ _⟩
  case round =>
    obtain ⟨c, us, hc, rfl, HM, hx⟩ := hrel
    obtain ⟨wo, hwo⟩ : ∃ wo, wo = wr := ⟨_, rfl⟩
    subst hwo
    by_cases hcC : c < C
    · have hcc1 : (0 : Int) ≤ (c : Int) := by omega
      have hcc2 : (c : Int) < (C : Int) := by omega
      go_wp2_with (go_at_call 52; (with_reducible refine (HC.out _ hx).mono ?_); rintro e w2 ⟨rfl, hw2⟩; obtain rfl : wo = w2 := hw2.symm)
      go_loopw [5, 6] (fun rv iv wr => ∃ (k : Nat) (ts : List Fc), k ≤ n ∧ iv = .int .i64 k ∧ Hid (wr.ownsRow wo.heap.size 34 3 rv k (fcells ts)) ∧ Hid (ts.length = k ∧ ∀ (j : Nat) (t : Fc), ts[j]? = some t → Ent K w t.neg t.num t.den (M j c)) ∧ Ext wo wr) (fun _ iv _ => n - (intOf iv).toNat)
      case atStart => exact ⟨0, [], Nat.zero_le _, rfl, Lib.hid (World.ownsRow_nil _ _ _ _), Lib.hid ⟨rfl, by simp⟩, Below.refl _ _⟩
      case round =>
        obtain ⟨k, ts, hk2, rfl, HO, HTS, hw⟩ := hrel
        by_cases hkN : k < n
        · obtain ⟨b', o', A5, cp5, rfl, hb5, hcell, hrow⟩ := HV0.out.at_ (k := k) hkN
          obtain ⟨b6, o6, ng, D1, p1, d1, D2, p2, d2, rfl, hb6, e0, e1, e2, he⟩ := hrow.at_ (k := c) hcC
          have hxw : Ext w wr := hx.trans hw
          have hcell := (hxw.cell (p := ⟨b', o' + k, none⟩) hb5).trans hcell
          have e0 := (hxw.cell (p := ⟨b6, o6 + c * 3, none⟩) hb6).trans e0
          have e1 := (hxw.cell (p := ⟨b6, o6 + c * 3 + 1, none⟩) hb6).trans e1
          have e2 := (hxw.cell (p := ⟨b6, o6 + c * 3 + 2, none⟩) hb6).trans e2
          have HE0 := Lib.hid he
          have hi1 : (0 : Int) ≤ (k : Int) := by omega
          have hi2 : (k : Int) < (n : Int) := by omega
          clear he hrow hxw
          go_wp2_with (at_builtin; refine wpList_append_mine _ (by rfl) (.tmp 19) (.tmp 27) 39 (by rfl) wo.heap.size 34 i0 (.agg #[.bool false, .slice none 0 0, .slice none 0 0]) 3 56 Try.underlying39 hi hz0 hz1 hz2 rfl (by omega) _ _ _ (by rfl) (HO.out.kept (Ext.grown (ext_alloc (Below.refl _ _) _)) (by cases u5.ownBlock <;> simp)) ⟨wr.heap.size, 0, none⟩ 1 1 [.bool ng, .slice D1 p1 d1, .slice D2 p2 d2] (by rfl) rfl (cell_three wr _ _ _ _) (by simp [Value.oneCell']) (by unfold maxLen; omega) (by omega) (by have := hw.size; simp; omega) ?_; intro v8 w8 ho8 hg8 hw8)
          rw [fcells_snoc ts ⟨ng, .slice D1 p1 d1, .slice D2 p2 d2⟩] at ho8
          have hx8 : Ext wo w8 := Below.grown (Ext.trans hw (ext_alloc (Below.refl _ _) _)) hg8 (by have := hw.size; simp; omega) fun g hg => (HO.out.lt g hg).1
          have HT8 := Lib.hid (show (ts ++ [(⟨ng, .slice D1 p1 d1, .slice D2 p2 d2⟩ : Fc)]).length = k + 1 ∧ ∀ (j : Nat) (t : Fc), (ts ++ [(⟨ng, .slice D1 p1 d1, .slice D2 p2 d2⟩ : Fc)])[j]? = some t → Ent K w t.neg t.num t.den (M j c) from ⟨by rw [List.length_append, HTS.out.1]; rfl, snoc_ent (t0 := ⟨ng, .slice D1 p1 d1, .slice D2 p2 d2⟩) (f := fun j => M j c) HTS.out.1 HTS.out.2 HE0.out⟩)
          have HO8 := Lib.hid ho8
          clear ho8 hg8 hw8
          go_roundw
          case rel => exact ⟨k + 1, _, by omega, by go_num, HO8, HT8, hx8⟩
          case measure => simp [intOf]; omega
        · obtain rfl : n = k := by omega
          have hkk2 : ¬ ((n : Int) < (n : Int)) := by omega
          obtain ⟨A9, c9, rfl⟩ := own_form HO.out
          go_wp2_with (at_builtin; refine wpList_append_mine _ (by rfl) (.tmp 29) (.tmp 31) 22 (by rfl) w.heap.size 39 j0 (.slice none 0 0) 1 24 Try.underlying22 hj hy0 hy1 hy2 rfl (by omega) _ _ _ (by rfl) (HM.out.ext (ext_alloc hw _)).own ⟨wr.heap.size, 0, none⟩ 1 1 [.slice A9 n c9] (by rfl) rfl (cell_one wr _ _) (by simp [Value.oneCell']) (by unfold maxLen; omega) (by omega) (by have := hx.size; have := hw.size; simp; omega) ?_; intro v8 w8 ho8 hg8 hw8)
          have hM8 := Lib.hid (HM.out.push_in hx (ext_alloc hw _) (HO.out.kept (Ext.grown (ext_alloc (Below.refl _ _) _)) (by cases A9 <;> simp [Value.ownBlock])) HTS.out.1 HTS.out.2 ho8 hg8 hw8)
          have hx8 : Ext w w8 := Below.grown (Ext.trans hx (ext_alloc hw _)) hg8 (by have := hx.size; have := hw.size; simp; omega) fun g hg => (HM.out.lt (.inl hg)).1
          clear ho8 hg8 hw8
          go_roundw
          case rel => exact ⟨c + 1, _, by omega, by go_num, hM8, hx8⟩
          case measure => simp [intOf]; omega
    · obtain rfl : C = c := by omega
      have hcc : ¬ ((C : Int) < (C : Int)) := by omega
      have hE := HM.out.mat
      obtain ⟨A9, c9, rfl, _, _⟩ := hE.form
      clear HM
      go_wp2_with (go_at_call 52; (with_reducible refine (HC.out _ hx).mono ?_); rintro e w2 ⟨rfl, hw2⟩; obtain rfl : wo = w2 := hw2.symm)
      go_ret
      exact ⟨_, _, rfl, hE, hx⟩

end Go.Proofs.Ytmfigiifflljpaa
