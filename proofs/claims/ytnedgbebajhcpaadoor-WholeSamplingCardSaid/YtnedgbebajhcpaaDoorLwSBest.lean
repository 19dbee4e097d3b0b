/- The walk of SamplingBest. -/
import Derived.Test.YtnedgbebajhcpaaDoorRPlan
import Derived.Test.YtnedgbebajhcpaaDoorSamN
import Derived.Test.YtnedgbebajhcpaaDoorWf
set_option linter.unusedVariables false
set_option linter.unusedSimpArgs false
set_option maxRecDepth 100000
namespace Go.Proofs.YtnedgbebajhcpaaDoor
open Go.RowKit Num

theorem gain_n {D x : List Nat} {n c d : Nat} {A B : Option Addr} {w : World} (hD : PlanN D) (hDn : D.length = n) (hx : x.length = n) (h30 : ∀ e ∈ x, e ≤ 30) (hv : IntsV w (.slice A n c) (natsS D)) (hy : IntsV w (.slice B n d) (natsS x)) (ht : Tab10 w) :
    Calls Tryd.prog 17 #[.slice A n c, .slice B n d] w (GivesFE w (gl D x)) := by
  have h := sGain_ok (A := A) (B := B) (c := c) (d := d) (w := w) hD (by omega) h30 (by rw [natsS_length, hDn]; exact hv) (by rw [natsS_length, hx]; exact hy) ht
  rw [natsS_length, natsS_length, hx, hDn] at h
  exact h
theorem split_n {D : List Nat} {n m c : Nat} {A : Option Addr} {w : World} (hD : PlanN D) (hDn : D.length = n) (hm : m ≤ 12) (hv : IntsV w (.slice A n c) (natsS D)) (ht : Tab10 w) :
    Calls Tryd.prog 16 #[.slice A n c, .int .i64 m] w (fun e w' => ∃ A' c', e = .returned (.tuple #[.slice A' n c', .int .i64 0]) ∧ IntsV w' (.slice A' n c') (natsS (bestL D m).1) ∧ Ext w w') := by
  have h := split_ok (A := A) (c := c) (w := w) hD hm (by rw [natsS_length, hDn]; exact hv) ht
  rw [natsS_length, hDn] at h
  refine h.mono fun e w' hh => ?_
  obtain ⟨A', c', h1, h2, h3⟩ := hh
  have hb := (bestL_mem (m := m) (fun d hd => (hD.2 d hd).1) hD.1.1).1
  rw [natsS_length, hb, hDn] at h1 h2
  exact ⟨A', c', h1, h2, h3⟩
theorem split_non {D : List Nat} {n c : Nat} {m : Int} {A : Option Addr} {w : World} (hD : PlanN D) (hDn : D.length = n) (hm : m < 0 ∨ 12 < m) (hv : IntsV w (.slice A n c) (natsS D)) :
    Calls Tryd.prog 16 #[.slice A n c, .int .i64 m] w (fun e w' => ∃ A' c', e = .returned (.tuple #[.slice A' 0 c', .int .i64 2]) ∧ Ext w w') := by
  have h := split_no (A := A) (c := c) (w := w) hD hm (by rw [natsS_length, hDn]; exact hv)
  rw [natsS_length, hDn] at h
  refine h.mono fun e w' hh => ?_
  obtain ⟨A', c', h1, h2, h3⟩ := hh
  exact ⟨A', c', h1, h3⟩
theorem plan_n {D : List Nat} {n c : Nat} {A : Option Addr} {w : World} (hD : PlanN D) (hDn : D.length = n) (hv : IntsV w (.slice A n c) (natsS D)) :
    Calls Tryd.prog 25 #[.slice A n c] w (fun e w' => e = .returned (.bool true) ∧ w' = w) := by
  have hp := planN_in hD
  have h := rplan_t (A := A) (c := c) (w := w) (us := natsS D) (by rw [natsS_length, hDn]; exact hv) hp.2 hp.1.1 hp.1.2
  rw [natsS_length, hDn] at h
  exact h
theorem takesum_succ {l : List Nat} {k : Nat} (h : k < l.length) : (l.take (k + 1)).sum = (l.take k).sum + at0 l k := by
  rw [sum_at0 l (k + 1) (by omega), sum_at0 l k (by omega), sumTo_succ]
theorem takesum_le {l : List Nat} {L : Nat} (h : ∀ x ∈ l, x ≤ L) : ∀ k, k ≤ l.length → (l.take k).sum ≤ L * k
  | 0, _ => by rw [List.take_zero]; exact Nat.le_refl _
  | k + 1, hk => by
    rw [takesum_succ (by omega), Nat.mul_succ]
    have h1 := takesum_le h k (by omega)
    have h2 := h _ (at0_mem (l := l) (i := k) (by omega))
    omega
/-- What is improved by a move of a specimen from one of the first i. -/
def Imp (D l : List Nat) (i : Nat) : Prop := ∃ i' k', i' < i ∧ k' < D.length ∧ i' ≠ k' ∧ 0 < at0 l i' ∧ gl D l < gl D (moved l i' k')
def ImpK (D l : List Nat) (i k : Nat) : Prop := Imp D l i ∨ ∃ k', k' < k ∧ i ≠ k' ∧ 0 < at0 l i ∧ gl D l < gl D (moved l i k')
theorem Imp.zero {D l : List Nat} : (false = true) ↔ Imp D l 0 := ⟨fun h => (by cases h), fun ⟨i', _, h, _⟩ => absurd h (Nat.not_lt_zero _)⟩
theorem ImpK.zero {D l : List Nat} {i : Nat} {β : Bool} (h : β = true ↔ Imp D l i) : β = true ↔ ImpK D l i 0 :=
  ⟨fun hb => .inl (h.1 hb), fun hk => by
    rcases hk with hk | ⟨k', hk, _⟩
    · exact h.2 hk
    · exact absurd hk (Nat.not_lt_zero _)⟩
theorem ImpK.skip {D l : List Nat} {i k : Nat} {β : Bool} (h : β = true ↔ ImpK D l i k) (hs : i = k ∨ at0 l i = 0) : β = true ↔ ImpK D l i (k + 1) := by
  rw [h]
  constructor
  · rintro (h1 | ⟨k', h1, h2⟩)
    · exact .inl h1
    · exact .inr ⟨k', by omega, h2⟩
  · rintro (h1 | ⟨k', h1, h2, h3, h4⟩)
    · exact .inl h1
    · by_cases hk : k' < k
      · exact .inr ⟨k', hk, h2, h3, h4⟩
      · exfalso
        rcases hs with hs | hs <;> omega
theorem ImpK.next {D l : List Nat} {i k : Nat} {β : Bool} (h : β = true ↔ ImpK D l i k) (hik : i ≠ k) (h0 : 0 < at0 l i) {γ : Bool} (hg : γ = true ↔ gl D l < gl D (moved l i k)) : (β || γ) = true ↔ ImpK D l i (k + 1) := by
  rw [Bool.or_eq_true, h, hg]
  constructor
  · rintro ((h1 | ⟨k', h1, h2⟩) | h1)
    · exact .inl h1
    · exact .inr ⟨k', by omega, h2⟩
    · exact .inr ⟨k, by omega, hik, h0, h1⟩
  · rintro (h1 | ⟨k', h1, h2, h3, h4⟩)
    · exact .inl (.inl h1)
    · by_cases hk : k' < k
      · exact .inl (.inr ⟨k', hk, h2, h3, h4⟩)
      · obtain rfl : k' = k := by omega
        exact .inr h4
theorem ImpK.row {D l : List Nat} {i : Nat} {β : Bool} (h : β = true ↔ ImpK D l i D.length) : β = true ↔ Imp D l (i + 1) := by
  rw [h]
  constructor
  · rintro (⟨i', k', h1, h2⟩ | ⟨k', h1, h2, h3, h4⟩)
    · exact ⟨i', k', by omega, h2⟩
    · exact ⟨i, k', by omega, h1, h2, h3, h4⟩
  · rintro ⟨i', k', h1, h2, h3, h4, h5⟩
    by_cases hi : i' < i
    · exact .inl ⟨i', k', hi, h2, h3, h4, h5⟩
    · obtain rfl : i' = i := by omega
      exact .inr ⟨k', h2, h3, h4, h5⟩
theorem Imp.best {D l : List Nat} (hD : PlanN D) (hl : l.length = D.length) {β : Bool} (h : β = true ↔ Imp D l D.length) : β = true ↔ gl D l < (bestL D l.sum).2 := by
  rw [h, bestL_moves (fun d hd => (hD.2 d hd).1) hD.1.1 hl rfl]
  rfl
theorem moved_le {l : List Nat} {i k : Nat} (h : ∀ x ∈ l, x ≤ 12) (hk : k < l.length) (hi : i < l.length) : ∀ x ∈ moved l i k, x ≤ 30 := by
  intro x hx
  have h1 := h _ (at0_mem (l := l) hi)
  have h2 := h _ (at0_mem (l := l) hk)
  rcases List.mem_or_eq_of_mem_set hx with hx | rfl
  · rcases List.mem_or_eq_of_mem_set hx with hx | rfl
    · have := h x hx; omega
    · omega
  · omega
theorem natsS_set (l : List Nat) (i x : Nat) : natsS (l.set i x) = (natsS l).set i (x : Int) := by unfold natsS; rw [List.map_set]

theorem IntsV.readsB {w : World} {A : Option Addr} {n c : Nat} {zs : List Int} (h : IntsV w (.slice A n c) zs) : Reads w 1 A n (i64l zs) := by
  obtain ⟨A', c', e, _, _, h4⟩ := h
  injection e with e1 e2 e3
  subst e1 e2
  exact h4
theorem getD_set_neB (l : List Int) {i k : Nat} (h : i ≠ k) (x : Int) : (l.set i x).getD k 0 = l.getD k 0 := by
  rw [List.getD_eq_getElem?_getD, List.getElem?_set_ne h, ← List.getD_eq_getElem?_getD]
/-- A row of int that the call made, of whatever capacity. -/
def RowG (base : Nat) (w : World) (g n cap : Nat) (xs : List Int) : Prop := w.ownsRow base 3 1 (.slice (some ⟨g, 0, none⟩) n cap) n (i64l xs)
theorem i64l_setG (zs : List Int) (k : Nat) (z : Int) : (i64l zs).set k (.int .i64 z) = i64l (zs.set k z) := by unfold i64l; rw [List.map_set]
theorem RowG.put {base g n cap k : Nat} {w : World} {xs : List Int} (h : RowG base w g n cap xs) (z : Int) : RowG base (w.setCell ⟨g, k, none⟩ (.int .i64 z)) g n cap (xs.set k z) := by
  have h1 := (World.ownsRow.stored h k (.int .i64 z)).1
  rw [i64l_setG] at h1
  exact h1
theorem RowG.at_ {base g n cap k : Nat} {w : World} {xs : List Int} (h : RowG base w g n cap xs) (hk : k < n) : w.cell? ⟨g, k, none⟩ = some (.int .i64 (xs.getD k 0)) ∧ w.frozen? ⟨g, k, none⟩ = false := by
  have hl : xs.length = n := by have := h.1; simpa [i64l_length] using this
  exact ⟨(World.ownsRow.cellAt h k (by omega)).trans (i64l_get xs (by omega)), World.ownsRow.frozenAt h k⟩
theorem RowG.of {base n : Nat} {w : World} {v : Value} {xs : List Int} (h : w.ownsRow base 3 1 v n (i64l xs)) (hn : 0 < n) : ∃ g cap, v = .slice (some ⟨g, 0, none⟩) n cap ∧ base ≤ g ∧ RowG base w g n cap xs := by
  rcases h.2 with ⟨rfl, h0⟩ | ⟨g, cap, cur, rfl, hb, _⟩
  · omega
  · exact ⟨g, cap, rfl, hb, h⟩

set_option maxHeartbeats 4000000 in
/-- No plan, another length. -/
theorem best_early {us ls : List Int} {A B : Option Addr} {c d : Nat} {w : World} (h : ¬ ((PlanIn us ∧ 1 ≤ us.length ∧ us.length ≤ 4) ∧ ls.length = us.length)) (hv : IntsV w (.slice A us.length c) us) (ht : Tab10 w) :
    Calls Tryd.prog 7 #[.slice A us.length c, .slice B ls.length d] w (fun e w' => e = .returned (.bool true) ∧ Ext w w') := by
  have HT := Lib.hid (fun (w' : World) (h : Ext w w') => ht.ext h)
  have HV := Lib.hid (fun (w' : World) (h : Ext w w') => hv.below h)
  clear hv
  by_cases hp : PlanIn us ∧ 1 ≤ us.length ∧ us.length ≤ 4
  · have hn : ls.length ≠ us.length := fun e => h ⟨hp, e⟩
    have HP := Lib.hid hp
    have e1 : decide ((ls.length : Int) = (us.length : Int)) = false := decide_eq_false (by omega)
    have e2 : ((ls.length : Int) == (us.length : Int)) = false := by rw [beq_eq_false_iff_ne]; omega
    have e3 : ¬ (ls.length = us.length) := hn
    clear h hp hn
    go_enter Tryd.func7, Tryd.ntmps7
    go_wp2_with fail
    refine (sawake ht).mono ?_
    rintro e U0 ⟨rfl, V0⟩
    clear ht
    go_wp2_with fail
    refine (rplan_t (HV.out _ V0) HP.out.1 HP.out.2.1 HP.out.2.2).mono ?_
    rintro e U1 ⟨rfl, hU1⟩
    obtain rfl : U0 = U1 := hU1.symm
    go_wp2_with fail
    refine (sawake (HT.out _ V0)).mono ?_
    rintro e U2 ⟨rfl, V2⟩
    go_wp2
    go_ret
    exact ⟨rfl, V0.trans V2⟩
  · have HP := Lib.hid hp
    clear h hp
    go_enter Tryd.func7, Tryd.ntmps7
    go_wp2_with fail
    refine (sawake ht).mono ?_
    rintro e U0 ⟨rfl, V0⟩
    clear ht
    go_wp2_with fail
    refine (rplan_f (HV.out _ V0) HP.out).mono ?_
    rintro e U1 ⟨rfl, hU1⟩
    obtain rfl : U0 = U1 := hU1.symm
    go_wp2_with fail
    refine (sawake (HT.out _ V0)).mono ?_
    rintro e U2 ⟨rfl, V2⟩
    go_wp2
    go_ret
    exact ⟨rfl, V0.trans V2⟩

def SpanIn (ls : List Int) : Prop := ∀ u ∈ ls, 0 ≤ u ∧ u ≤ 12
set_option maxHeartbeats 4000000 in
/-- A number out of its span. -/
theorem best_span {D : List Nat} {ls : List Int} {n c d : Nat} {A B : Option Addr} {w : World} (hD : PlanN D) (hDn : D.length = n) (hln : ls.length = n) (hs : ¬ SpanIn ls) (hv : IntsV w (.slice A n c) (natsS D)) (hy : IntsV w (.slice B n d) ls) (ht : Tab10 w) :
    Calls Tryd.prog 7 #[.slice A n c, .slice B n d] w (fun e w' => e = .returned (.bool true) ∧ Ext w w') := by
  have HPL := Lib.hid (fun (w' : World) (h : Ext w w') => plan_n hD hDn (hv.below h))
  have HY := Lib.hid (fun (w' : World) (h : Ext w w') => hy.below h)
  have HS := Lib.hid hs
  have HLN := Lib.hid hln
  have hn4 : n ≤ 4 := by have := hD.1.2; omega
  clear hv hy hs hD hDn hln
  go_enter Tryd.func7, Tryd.ntmps7
  go_wp2_with fail
  refine (sawake ht).mono ?_
  rintro e U0 ⟨rfl, V0⟩
  clear ht
  go_wp2_with fail
  refine (HPL.out _ V0).mono ?_
  rintro e U1 ⟨rfl, hU1⟩
  obtain rfl : U0 = U1 := hU1.symm
  go_wp2
  go_loopw [5, 6] (fun mv iv wr => ∃ (k : Nat) (s : Int), k ≤ n ∧ iv = .int .i64 k ∧ mv = .int .i64 s ∧ (0 ≤ s ∧ s ≤ 12 * (k : Int)) ∧ Hid (SpanIn (ls.take k)) ∧ wr = U0) (fun _ iv _ => n - (intOf iv).toNat)
  case atStart => exact ⟨0, 0, Nat.zero_le _, rfl, rfl, by omega, Lib.hid (by intro u hu; simp at hu), by trivial⟩
  case round =>
    obtain ⟨k, s, hk, rfl, rfl, hsb, HTK, rfl⟩ := hrel
    by_cases hkn : k < n
    · obtain ⟨b, o, rfl, hb, hc⟩ := (HY.out _ V0).plS (k := k) (by rw [HLN.out]; exact hkn)
      obtain ⟨x, hx⟩ : ∃ x, x = ls.getD k 0 := ⟨_, rfl⟩
      have HX := Lib.hid hx
      rw [← hx] at hc
      have hi1 : (0 : Int) ≤ (k : Int) := by omega
      have hi2 : (k : Int) < (n : Int) := by omega
      have hwk : IntKind.i64.wrap ((k : Int) + 1) = (k : Int) + 1 := wrap_in (by omega)
      clear hx
      by_cases h1 : 0 ≤ x ∧ x ≤ 12
      · have H1 := Lib.hid h1
        have hws : IntKind.i64.wrap (s + x) = s + x := wrap_in (by omega)
        have hsb2 : 0 ≤ s + x ∧ s + x ≤ 12 * ((k + 1 : Nat) : Int) := by omega
        clear h1
        go_wp2_with (go_at_call 26; (with_reducible refine (rin_t (n := x) H1.out.1 H1.out.2).mono ?_); rintro _ s1 ⟨rfl, rfl⟩)
        go_roundw
        case rel => exact ⟨k + 1, s + x, by omega, by go_num, rfl, hsb2, Lib.hid (by
          intro u hu
          rw [List.take_add_one, List.mem_append] at hu
          rcases hu with hu | hu
          · exact HTK.out u hu
          · have hkl : k < ls.length := by rw [HLN.out]; exact hkn
            rw [List.getElem?_eq_getElem hkl] at hu
            simp at hu
            subst hu
            have h1 := H1.out
            rw [HX.out, List.getD_eq_getElem?_getD, List.getElem?_eq_getElem hkl] at h1
            exact h1), by trivial⟩
        case measure => simp [intOf]; omega
      · have H3 := Lib.hid (show x < 0 ∨ 12 < x from by omega)
        clear h1
        go_wp2_with (go_at_call 26; (with_reducible refine (rin_f (n := x) H3.out).mono ?_); rintro _ s1 ⟨rfl, rfl⟩)
        go_ret
        exact ⟨rfl, V0⟩
    · exfalso
      have h := HTK.out
      rw [List.take_of_length_le (by rw [HLN.out]; omega)] at h
      exact HS.out h

set_option maxHeartbeats 32000000 in
theorem best_in {D l : List Nat} {n c d : Nat} {A B : Option Addr} {w : World} (hD : PlanN D) (hDn : D.length = n) (hln : l.length = n) (hl12 : ∀ x ∈ l, x ≤ 12) (hv : IntsV w (.slice A n c) (natsS D)) (hy : IntsV w (.slice B n d) (natsS l)) (ht : Tab10 w) :
    Calls Tryd.prog 7 #[.slice A n c, .slice B n d] w (fun e w' => e = .returned (.bool true) ∧ Ext w w') := by
  have HT := Lib.hid (fun (w' : World) (h : Ext w w') => ht.ext h)
  have HPL := Lib.hid (fun (w' : World) (h : Ext w w') => plan_n hD hDn (hv.below h))
  have HV := Lib.hid (fun (w' : World) (h : Ext w w') => hv.below h)
  have HY := Lib.hid (fun (w' : World) (h : Ext w w') => hy.below h)
  have HDD := Lib.hid hD
  have HDN := Lib.hid hDn
  have HLN := Lib.hid hln
  have HL := Lib.hid hl12
  have HTL := Lib.hid (fun (k : Nat) (h : k ≤ n) => takesum_le hl12 k (by omega))
  have HTS := Lib.hid (fun (k : Nat) (h : k < n) => takesum_succ (l := l) (k := k) (by omega))
  have hn1 : 1 ≤ n := by have := hD.1.1; omega
  have hn4 : n ≤ 4 := by have := hD.1.2; omega
  clear hv hy hD hDn hln hl12
  go_enter Tryd.func7, Tryd.ntmps7
  go_wp2_with fail
  refine (sawake ht).mono ?_
  rintro e U0 ⟨rfl, V0⟩
  clear ht
  go_wp2_with fail
  refine (HPL.out _ V0).mono ?_
  rintro e U1 ⟨rfl, hU1⟩
  obtain rfl : U0 = U1 := hU1.symm
  go_wp2
  go_loopw [5, 6] (fun mv iv wr => ∃ k : Nat, k ≤ n ∧ iv = .int .i64 k ∧ mv = .int .i64 (((l.take k).sum : Nat) : Int) ∧ wr = U0) (fun _ iv _ => n - (intOf iv).toNat)
  case atStart => exact ⟨0, Nat.zero_le _, rfl, rfl, by trivial⟩
  case round =>
    obtain ⟨k, hk, rfl, rfl, rfl⟩ := hrel
    by_cases hkn : k < n
    · obtain ⟨b, o, rfl, hb, hc⟩ := (HY.out _ V0).plS (k := k) (by rw [natsS_length, HLN.out]; exact hkn)
      rw [getD_natsS (by rw [HLN.out]; exact hkn)] at hc
      have hx12 := HL.out _ (at0_mem (l := l) (i := k) (by rw [HLN.out]; exact hkn))
      have hsl := HTL.out k hk
      have hss := HTS.out k hkn
      obtain ⟨x, hx⟩ : ∃ x, x = at0 l k := ⟨_, rfl⟩
      obtain ⟨s, hs⟩ : ∃ s, s = (l.take k).sum := ⟨_, rfl⟩
      obtain ⟨s', hs'⟩ : ∃ s', s' = (l.take (k + 1)).sum := ⟨_, rfl⟩
      rw [← hx] at hc hx12 hss
      rw [← hs] at hsl hss ⊢
      rw [← hs'] at hss
      have HS' := Lib.hid hs'
      have HSS := Lib.hid (show (s : Int) + (x : Int) = (s' : Int) from by omega)
      have hi1 : (0 : Int) ≤ (k : Int) := by omega
      have hi2 : (k : Int) < (n : Int) := by omega
      have hwk : IntKind.i64.wrap ((k : Int) + 1) = (k : Int) + 1 := wrap_in (by omega)
      have hws : IntKind.i64.wrap ((s : Int) + (x : Int)) = (s' : Int) := by rw [wrap_in (by omega)]; exact HSS.out
      clear hx hs hs' hss
      go_wp2_with (go_at_call 26; (with_reducible refine (rin_t (n := (x : Int)) (by omega) (by omega)).mono ?_); rintro _ s1 ⟨rfl, rfl⟩)
      go_roundw
      case rel => exact ⟨k + 1, by omega, by go_num, by rw [HS'.out], by trivial⟩
      case measure => simp [intOf]; omega
    · obtain rfl : k = n := by omega
      have hkk : ¬ ((k : Int) < (k : Int)) := by omega
      have hts : (l.take k).sum = l.sum := by rw [← HLN.out, List.take_length]
      rw [hts]
      have hb48 := HTL.out k (Nat.le_refl _)
      rw [hts] at hb48
      obtain ⟨m, hm⟩ : ∃ m, m = l.sum := ⟨_, rfl⟩
      rw [← hm] at hb48 ⊢
      have HM := Lib.hid hm
      clear hts hm
      by_cases hm12 : m ≤ 12
      · have hmn : ¬ (12 : Int) < (m : Int) := by omega
        have HSP := Lib.hid (fun (w' : World) (h : Ext w w') => split_n HDD.out HDN.out hm12 (HV.out w' h) (HT.out w' h))
        obtain ⟨bs, hbs⟩ : ∃ bs, bs = (bestL D m).1 := ⟨_, rfl⟩
        have hmem := bestL_mem (D := D) (m := m) (fun d hd => (HDD.out.2 d hd).1) HDD.out.1.1
        have hge := bestL_ge (D := D) (l := l) (m := m) HDD.out.1.1 (by rw [HLN.out, HDN.out]) HM.out.symm
        rw [hmem.2.2] at hge
        rw [← hbs] at HSP hmem hge
        have hbl : bs.length = k := by rw [hmem.1, HDN.out]
        have hbsum : bs.sum = m := hmem.2.1
        have hb12 : ∀ x ∈ bs, x ≤ 12 := fun x hx => by have := mem_le_sum hx; omega
        obtain ⟨most, hmost⟩ : ∃ q, q = gl D bs := ⟨_, rfl⟩
        obtain ⟨own, hown⟩ : ∃ q, q = gl D l := ⟨_, rfl⟩
        have HGB := Lib.hid (fun (w' : World) (A' : Option Addr) (c' : Nat) (h : Ext w w') (hi : IntsV w' (.slice A' k c') (natsS bs)) => gain_n HDD.out HDN.out hbl (fun x hx => by have := hb12 x hx; omega) (HV.out w' h) hi (HT.out w' h))
        have HGL := Lib.hid (fun (w' : World) (h : Ext w w') => gain_n HDD.out HDN.out HLN.out (fun x hx => by have := HL.out x hx; omega) (HV.out w' h) (HY.out w' h) (HT.out w' h))
        have HFM := Lib.hid (gl_fb HDD.out (l := bs) hmem.1 (fun x hx => by have := hb12 x hx; omega))
        have HFO := Lib.hid (gl_fb HDD.out (l := l) (by rw [HLN.out, HDN.out]) (fun x hx => by have := HL.out x hx; omega))
        rw [← hmost] at HGB HFM hge
        rw [← hown] at HGL HFO hge
        have HBL := Lib.hid hbl
        have HB12 := Lib.hid hb12
        have HMO := Lib.hid hmost
        have HOW := Lib.hid hown
        have HBS := Lib.hid hbs
        obtain ⟨z0, hz0⟩ : ∃ z, cmpQ own most = z := ⟨_, rfl⟩
        have HZ0 := Lib.hid hz0
        have e0 : decide (0 < z0) = false := decide_eq_false (by
          intro h
          rw [← hz0, cmpQ_pos] at h
          grind)
        have HTB := Lib.hid (fun (j : Nat) (h : j ≤ k) => takesum_le hb12 j (by omega))
        have HTBS := Lib.hid (fun (j : Nat) (h : j < k) => takesum_succ (l := bs) (k := j) (by omega))
        have HBSM := Lib.hid hbsum
        clear hmem hge hbl hbsum hb12 hmost hown hbs hz0
        go_wp2_with fail
        refine (HSP.out _ V0).mono ?_
        rintro e U2 ⟨AB, cB, rfl, hI2, y2⟩
        have HI2 := Lib.hid (fun (w' : World) (h : Ext U2 w') => hI2.below h)
        clear hI2
        have V2 := V0.trans y2
        go_wp2_with fail
        refine (HGB.out _ _ _ V2 (HI2.out _ (Below.refl _ _))).mono ?_
        rintro e w1 ⟨b1, A1, k1, c1, A1', k1', c1', rfl, h1, y1, n1, n1'⟩
        clear n1 n1'
        go_upto_region 14 with (fail)
        have hG1 := FBox.new w1 (.bool b1) (.slice A1 k1 c1) (.slice A1' k1' c1') 28
        have Y1 : Ext U2 (w1.alloc (.cells #[.bool b1, .slice A1 k1 c1, .slice A1' k1' c1'] 28)) := ext_alloc y1 _
        have h1 := h1.below (ext_alloc (Below.refl _ _) (.cells #[.bool b1, .slice A1 k1 c1, .slice A1' k1' c1'] 28))
        have hsz1 : w1.heap.size < (w1.alloc (.cells #[.bool b1, .slice A1 k1 c1, .slice A1' k1' c1'] 28)).heap.size := by simp
        generalize w1.alloc (.cells #[.bool b1, .slice A1 k1 c1, .slice A1' k1' c1'] 28) = W1 at *
        generalize w1.heap.size = B1 at *
        have HG1 := Lib.hid (fun (w' : World) (h : Ext W1 w') => hG1.below h)
        have HP1 := Lib.hid (fun (w' : World) (h : Ext W1 w') => FracV.any (h1.below h) (HFM.out) (by omega))
        have HB1 := Lib.hid (fun (w' : World) (h : Ext W1 w') => h1.below h)
        clear hG1 h1 y1 hsz1
        go_wp2_with fail
        refine (HGL.out _ (V2.trans Y1)).mono ?_
        rintro e w2 ⟨b2, A2, k2, c2, A2', k2', c2', rfl, h2, y2, n2, n2'⟩
        clear n2 n2'
        go_upto_region 15 with (fail)
        have hG2 := FBox.new w2 (.bool b2) (.slice A2 k2 c2) (.slice A2' k2' c2') 28
        have Y2 : Ext W1 (w2.alloc (.cells #[.bool b2, .slice A2 k2 c2, .slice A2' k2' c2'] 28)) := ext_alloc y2 _
        have h2 := h2.below (ext_alloc (Below.refl _ _) (.cells #[.bool b2, .slice A2 k2 c2, .slice A2' k2' c2'] 28))
        have hsz2 : w2.heap.size < (w2.alloc (.cells #[.bool b2, .slice A2 k2 c2, .slice A2' k2' c2'] 28)).heap.size := by simp
        generalize w2.alloc (.cells #[.bool b2, .slice A2 k2 c2, .slice A2' k2' c2'] 28) = W2 at *
        generalize w2.heap.size = B2 at *
        have HG2 := Lib.hid (fun (w' : World) (h : Ext W2 w') => hG2.below h)
        have HP2 := Lib.hid (fun (w' : World) (h : Ext W2 w') => FracV.any (h2.below h) (HFO.out) (by omega))
        have HB2 := Lib.hid (fun (w' : World) (h : Ext W2 w') => h2.below h)
        clear hG2 h2 y2 hsz2
        have XU : Ext U2 W2 := Y1.trans Y2
        go_wp2
        go_loopw [13, 14] (fun sv iv wr => ∃ j : Nat, j ≤ k ∧ iv = .int .i64 j ∧ sv = .int .i64 (((bs.take j).sum : Nat) : Int) ∧ wr = W2) (fun _ iv _ => k - (intOf iv).toNat)
        case atStart => exact ⟨0, Nat.zero_le _, rfl, rfl, by trivial⟩
        case round =>
          obtain ⟨j, hj, rfl, rfl, rfl⟩ := hrel
          by_cases hjk : j < k
          · obtain ⟨b, o, rfl, hb, hc⟩ := (HI2.out _ XU).plS (k := j) (by rw [natsS_length, HBL.out]; exact hjk)
            rw [getD_natsS (by rw [HBL.out]; exact hjk)] at hc
            have hx12 := HB12.out _ (at0_mem (l := bs) (i := j) (by rw [HBL.out]; exact hjk))
            have hsl := HTB.out j hj
            have hss := HTBS.out j hjk
            obtain ⟨x, hx⟩ : ∃ x, x = at0 bs j := ⟨_, rfl⟩
            obtain ⟨s, hs⟩ : ∃ s, s = (bs.take j).sum := ⟨_, rfl⟩
            obtain ⟨s', hs'⟩ : ∃ s', s' = (bs.take (j + 1)).sum := ⟨_, rfl⟩
            rw [← hx] at hc hx12 hss
            rw [← hs] at hsl hss ⊢
            rw [← hs'] at hss
            have HS' := Lib.hid hs'
            have HSS := Lib.hid (show (s : Int) + (x : Int) = (s' : Int) from by omega)
            have hi1 : (0 : Int) ≤ (j : Int) := by omega
            have hi2 : (j : Int) < (k : Int) := by omega
            have hwj : IntKind.i64.wrap ((j : Int) + 1) = (j : Int) + 1 := wrap_in (by omega)
            have hws : IntKind.i64.wrap ((s : Int) + (x : Int)) = (s' : Int) := by rw [wrap_in (by omega)]; exact HSS.out
            clear hx hs hs' hss
            go_wp2
            go_roundw
            case rel => exact ⟨j + 1, by omega, by go_num, by rw [HS'.out], by trivial⟩
            case measure => simp [intOf]; omega
          · obtain rfl : j = k := by omega
            have hjj : ¬ ((j : Int) < (j : Int)) := by omega
            have hts : (bs.take j).sum = m := by rw [← HBL.out, List.take_length]; exact HBSM.out
            rw [hts]
            clear hts
            obtain ⟨p0, p1, p2, _, _, _⟩ := HG1.out _ Y2
            obtain ⟨q0, q1, q2, _, _, _⟩ := HG2.out _ (Below.refl _ _)
            have XW := V2.trans XU
            go_upto_region 22 with (go_at_call 14; (with_reducible refine (cmp_e (HP2.out _ (Below.refl _ _)) (HP1.out _ Y2) (by omega) HZ0.out).mono ?_); rintro e s3 ⟨rfl, z3⟩)
            have X3 : Ext w s3 := XW.trans z3
            have HOP := Lib.hid (fun (w' : World) (h : Ext s3 w') => HP2.out _ (z3.trans h))
            have HOB := Lib.hid (fun (w' : World) (h : Ext s3 w') => HG2.out _ (z3.trans h))
            have HMP := Lib.hid (fun (w' : World) (h : Ext s3 w') => HP1.out _ (Y2.trans (z3.trans h)))
            have HMB := Lib.hid (fun (w' : World) (h : Ext s3 w') => HG1.out _ (Y2.trans (z3.trans h)))
            clear p0 p1 p2 q0 q1 q2 e0
            obtain ⟨i0, hi, hz0, hz1, hz2⟩ := info_parts info_int
            go_wp2
            go_loopw [15, 16] (fun bv iv wq => ∃ (i : Nat) (β : Bool), i ≤ j ∧ iv = .int .i64 i ∧ bv = .bool β ∧ Hid (β = true ↔ Imp D l i) ∧ Ext s3 wq) (fun _ iv _ => j - (intOf iv).toNat)
            case atStart => exact ⟨0, false, Nat.zero_le _, rfl, rfl, Lib.hid Imp.zero, Below.refl _ _⟩
            case round =>
              obtain ⟨i, β, hij, rfl, rfl, HIM, hX⟩ := hrel
              by_cases hlt : i < j
              · have hii : (i : Int) < (j : Int) := by omega
                have hi0 : (0 : Int) ≤ (i : Int) := by omega
                have hwi : IntKind.i64.wrap ((i : Int) + 1) = (i : Int) + 1 := wrap_in (by omega)
                go_wp2
                go_loopw [15, 17] (fun bv kv wq => ∃ (k : Nat) (β : Bool), k ≤ j ∧ kv = .int .i64 k ∧ bv = .bool β ∧ Hid (β = true ↔ ImpK D l i k) ∧ Ext s3 wq) (fun _ kv _ => j - (intOf kv).toNat)
                case atStart => exact ⟨0, β, Nat.zero_le _, rfl, rfl, Lib.hid (ImpK.zero HIM.out), hX⟩
                case round =>
                  clear hX
                  obtain ⟨k, γ, hk, rfl, rfl, HIK, hX⟩ := hrel
                  by_cases hkj : k < j
                  · have hkk : (k : Int) < (j : Int) := by omega
                    have hk0 : (0 : Int) ≤ (k : Int) := by omega
                    have hwk : IntKind.i64.wrap ((k : Int) + 1) = (k : Int) + 1 := wrap_in (by omega)
                    have hil : i < l.length := by rw [HLN.out]; exact hlt
                    have hkl : k < l.length := by rw [HLN.out]; exact hkj
                    obtain ⟨b, o, rfl, hb, hc⟩ := (HY.out _ (X3.trans hX)).plS (k := i) (by rw [natsS_length]; exact hil)
                    rw [getD_natsS hil] at hc
                    have hx12 := HL.out _ (at0_mem (l := l) (i := i) hil)
                    have hy12 := HL.out _ (at0_mem (l := l) (i := k) hkl)
                    obtain ⟨x, hx⟩ : ∃ x, x = at0 l i := ⟨_, rfl⟩
                    obtain ⟨y, hy⟩ : ∃ y, y = at0 l k := ⟨_, rfl⟩
                    have HX := Lib.hid hx
                    have HYY := Lib.hid hy
                    have HIL := Lib.hid hil
                    have HKL := Lib.hid hkl
                    rw [← hx] at hc hx12
                    rw [← hy] at hy12
                    clear hx hy hil hkl
                    by_cases hik : i = k
                    · subst hik
                      have HSK := Lib.hid (ImpK.skip HIK.out (.inl rfl))
                      go_wp2
                      go_roundw
                      case rel => exact ⟨i + 1, γ, by omega, by go_num, rfl, HSK, hX⟩
                      case measure => simp [intOf]; omega
                    · have hne : ¬ ((i : Int) = (k : Int)) := by omega
                      have hne2 : ((i : Int) == (k : Int)) = false := by rw [beq_eq_false_iff_ne]; exact hne
                      have HIKn := Lib.hid hik
                      by_cases hx0 : x = 0
                      · have HSK := Lib.hid (ImpK.skip HIK.out (.inr (by rw [← HX.out]; exact hx0)))
                        have hxe : ((x : Int) == 0) = true := by rw [beq_iff_eq]; omega
                        have hxe2 : (x : Int) = 0 := by omega
                        clear hik hx0
                        go_wp2
                        go_roundw
                        case rel => exact ⟨k + 1, γ, by omega, by go_num, rfl, HSK, hX⟩
                        case measure => simp [intOf]; omega
                      · have hxe : ((x : Int) == 0) = false := by rw [beq_eq_false_iff_ne]; omega
                        have hxe2 : ¬ ((x : Int) = 0) := by omega
                        have HX0 := Lib.hid (show 0 < x from by omega)
                        clear hik hx0
                        go_upto_region 30 with (fail)
                        have xA : Ext wr (wr.alloc (.cells #[] 3)) := ext_alloc (Below.refl _ _) _
                        have hRd := IntsV.readsB (HY.out _ (X3.trans (hX.trans xA)))
                        obtain ⟨ad, he, _, hcc⟩ := hRd.2 (by omega)
                        injection he with he
                        subst he
                        have HCC := Lib.hid hcc
                        have HLEN := Lib.hid (show (i64l (natsS l)).length = j * 1 from by rw [i64l_length, natsS_length, HLN.out, Nat.mul_one])
                        clear hRd hcc
                        go_upto_region 31 with (at_builtin; refine wpList_append_mine _ (by rfl) (.tmp 131) (.tmp 132) 36 (by rfl) wr.heap.size 3 i0 (.int .i64 0) 1 8 Tryd.underlying36 hi hz0 hz1 hz2 rfl (by omega) _ 0 [] (by rfl) (World.ownsRow_lit (base := wr.heap.size) (e := 3) (size := 1) wr #[] 0 (Nat.le_refl _) (by unfold maxLen; omega) rfl) ⟨b, o, none⟩ j d (i64l (natsS l)) (by rfl) HLEN.out HCC.out (by simp [i64l, Value.oneCell']) (by unfold maxLen; omega) (by omega) (by simp) ?_; intro v10 w10 ho10 hg10 hw10)
                        have ho := ho10
                        rw [Nat.zero_add, List.nil_append] at ho
                        obtain ⟨g, cap, rfl, hgb, hR⟩ := RowG.of ho (by omega)
                        have x10 : Ext wr w10 := Below.grown xA hg10 xA.size (by intro q hq; simp [Value.ownBlock] at hq; omega)
                        have HR := Lib.hid hR
                        obtain ⟨q1, f1⟩ := hR.at_ hlt
                        rw [getD_natsS HIL.out, ← HX.out] at q1
                        have hwx : IntKind.i64.wrap ((x : Int) - 1) = (x : Int) - 1 := wrap_in (by omega)
                        clear ho ho10 hg10 hw10 hR
                        go_upto_region 32 with (fail)
                        have hR2 := HR.out.put (k := i) ((x : Int) - 1)
                        have x11 : Ext wr (w10.setCell ⟨g, i, none⟩ (.int .i64 ((x : Int) - 1))) := x10.setCell (p := ⟨g, i, none⟩) hgb _
                        clear q1 f1
                        generalize w10.setCell ⟨g, i, none⟩ (.int .i64 ((x : Int) - 1)) = WA at *
                        have HR2 := Lib.hid hR2
                        obtain ⟨q1, f1⟩ := hR2.at_ hkj
                        rw [getD_set_neB _ HIKn.out, getD_natsS HKL.out, ← HYY.out] at q1
                        have hwy : IntKind.i64.wrap ((y : Int) + 1) = (y : Int) + 1 := wrap_in (by omega)
                        clear hR2
                        go_upto_region 33 with (fail)
                        have hR3 := HR2.out.put (k := k) ((y : Int) + 1)
                        have x12 : Ext wr (WA.setCell ⟨g, k, none⟩ (.int .i64 ((y : Int) + 1))) := x11.setCell (p := ⟨g, k, none⟩) hgb _
                        clear q1 f1
                        generalize WA.setCell ⟨g, k, none⟩ (.int .i64 ((y : Int) + 1)) = WB at *
                        have hmv : ((natsS l).set i ((x : Int) - 1)).set k ((y : Int) + 1) = natsS (moved l i k) := by
                          unfold moved
                          rw [natsS_set, natsS_set, ← HX.out, ← HYY.out]
                          have h1 : ((x - 1 : Nat) : Int) = (x : Int) - 1 := by have := HX0.out; omega
                          rw [h1]
                          rfl
                        rw [hmv] at hR3
                        have HIV := Lib.hid (IntsV.of_own hR3)
                        have X12 := X3.trans (hX.trans x12)
                        have HGM := Lib.hid (gain_n (A := A) (c := c) HDD.out HDN.out (by rw [moved_length]; exact HLN.out) (moved_le HL.out HKL.out HIL.out) (HV.out _ X12) HIV.out (HT.out _ X12))
                        have HFQ := Lib.hid (gl_fb HDD.out (l := moved l i k) (by rw [moved_length, HLN.out, HDN.out]) (moved_le HL.out HKL.out HIL.out))
                        obtain ⟨qm, hqm⟩ : ∃ q, q = gl D (moved l i k) := ⟨_, rfl⟩
                        rw [← hqm] at HGM HFQ
                        obtain ⟨z, hz⟩ : ∃ z, cmpQ qm own = z := ⟨_, rfl⟩
                        obtain ⟨δ, hδ⟩ : ∃ δ, decide (0 < z) = δ := ⟨_, rfl⟩
                        have HZ := Lib.hid hz
                        have HNX := Lib.hid (ImpK.next HIK.out HIKn.out (by rw [← HX.out]; exact HX0.out) (γ := δ) (by
                          rw [← hδ, decide_eq_true_iff, ← hz, cmpQ_pos, hqm, HOW.out]))
                        clear hR3 hmv hqm hz
                        go_wp2_with fail
                        refine (HGM.out).mono ?_
                        rintro e w5 ⟨b5, A5, k5, c5, A5', k5', c5', rfl, h5, y5, n5, n5'⟩
                        clear n5 n5'
                        go_upto_region 34 with (fail)
                        have hG5 := FBox.new w5 (.bool b5) (.slice A5 k5 c5) (.slice A5' k5' c5') 28
                        have Y5 : Ext WB (w5.alloc (.cells #[.bool b5, .slice A5 k5 c5, .slice A5' k5' c5'] 28)) := ext_alloc y5 _
                        have h5 := h5.below (ext_alloc (Below.refl _ _) (.cells #[.bool b5, .slice A5 k5 c5, .slice A5' k5' c5'] 28))
                        have hsz5 : w5.heap.size < (w5.alloc (.cells #[.bool b5, .slice A5 k5 c5, .slice A5' k5' c5'] 28)).heap.size := by simp
                        generalize w5.alloc (.cells #[.bool b5, .slice A5 k5 c5, .slice A5' k5' c5'] 28) = W5 at *
                        generalize w5.heap.size = B5 at *
                        have HG5 := Lib.hid (fun (w' : World) (h : Ext W5 w') => hG5.below h)
                        have HP5 := Lib.hid (fun (w' : World) (h : Ext W5 w') => FracV.any (h5.below h) (HFQ.out) (by omega))
                        have HB5 := Lib.hid (fun (w' : World) (h : Ext W5 w') => h5.below h)
                        clear hG5 h5 y5 hsz5
                        have X5 := hX.trans (x12.trans Y5)
                        obtain ⟨p0, p1, p2, _, _, _⟩ := HG5.out _ (Below.refl _ _)
                        obtain ⟨q0, q1, q2, _, _, _⟩ := HOB.out _ X5
                        cases γ with
                        | true =>
                          go_wp2
                          go_roundw
                          case rel => exact ⟨k + 1, true, by omega, by go_num, rfl, Lib.hid (by have h := HNX.out; rw [Bool.true_or] at h; exact h), X5⟩
                          case measure => simp [intOf]; omega
                        | false =>
                          go_wp2_with (go_at_call 14; (with_reducible refine (cmp_e (HP5.out _ (Below.refl _ _)) (HOP.out _ X5) (by omega) HZ.out).mono ?_); rintro e s4 ⟨rfl, z4⟩)
                          go_roundw
                          case rel => exact ⟨k + 1, δ, by omega, by go_num, rfl, Lib.hid (by have h := HNX.out; rw [Bool.false_or] at h; exact h), X5.trans z4⟩
                          case measure => simp [intOf]; omega
                  · obtain rfl : k = j := by omega
                    have hkk : ¬ ((k : Int) < (k : Int)) := by omega
                    have HRW := Lib.hid (show γ = true ↔ Imp D l (i + 1) from by
                      have h := HIK.out
                      rw [← HDN.out] at h
                      exact ImpK.row h)
                    go_wp2
                    go_roundw
                    case rel => exact ⟨i + 1, γ, by omega, by go_num, rfl, HRW, hX⟩
                    case measure => simp [intOf]; omega
              · obtain rfl : i = j := by omega
                have hii : ¬ ((i : Int) < (i : Int)) := by omega
                have hβ : decide (z0 < 0) = β := by
                  have h := HIM.out
                  rw [← HDN.out] at h
                  have h2 := Imp.best HDD.out (by rw [HLN.out, HDN.out]) h
                  rw [← HM.out, (bestL_mem (D := D) (m := m) (fun d hd => (HDD.out.2 d hd).1) HDD.out.1.1).2.2, ← HBS.out, ← HMO.out, ← HOW.out, ← cmpQ_neg, HZ0.out] at h2
                  rw [Bool.eq_iff_iff, h2, decide_eq_true_iff]
                obtain ⟨p0, p1, p2, _, _, _⟩ := HMB.out _ hX
                obtain ⟨q0, q1, q2, _, _, _⟩ := HOB.out _ hX
                go_wp2_with (go_at_call 14; (with_reducible refine (cmp_e (HOP.out _ hX) (HMP.out _ hX) (by omega) HZ0.out).mono ?_); rintro e s4 ⟨rfl, z4⟩)
                go_ret
                exact ⟨rfl, X3.trans (hX.trans z4)⟩
      · have hmn : (12 : Int) < (m : Int) := by omega
        have HSP := Lib.hid (fun (w' : World) (h : Ext w w') => split_non (m := (m : Int)) HDD.out HDN.out (by omega) (HV.out w' h))
        go_wp2_with fail
        refine (HSP.out _ V0).mono ?_
        rintro e U2 ⟨A2, c2, rfl, y2⟩
        go_wp2
        go_ret
        exact ⟨rfl, V0.trans y2⟩

theorem law_SBest {us ls : List Int} {v0 v1 : Value} {w : World} (hk0 : KInts .i64 w v0 us) (hk1 : KInts .i64 w v1 ls) (ht : Tab10 w) :
    Calls Tryd.prog 7 #[v0, v1] w (fun e w' => e = .returned (.bool true) ∧ Ext w w') := by
  have hv := hk0.ints
  have hy := hk1.ints
  obtain ⟨A, c, rfl, _⟩ := id hv
  obtain ⟨B, d, rfl, _⟩ := id hy
  by_cases h : (PlanIn us ∧ 1 ≤ us.length ∧ us.length ≤ 4) ∧ ls.length = us.length
  · obtain ⟨hp, hl⟩ := h
    obtain ⟨hD, hn⟩ := plan_toN hp
    rw [hl] at hy ⊢
    by_cases hs : SpanIn ls
    · have hls : natsS (toN ls) = ls := nats_toN fun z hz => (hs z hz).1
      refine best_in (D := toN us) (l := toN ls) hD (toN_length us) (by rw [toN_length, hl]) (fun x hx => ?_) (by rw [hn]; exact hv) (by rw [hls]; exact hy) ht
      obtain ⟨z, hz, rfl⟩ := List.mem_map.1 hx
      have := hs z hz
      omega
    · exact best_span (D := toN us) hD (toN_length us) hl hs (by rw [hn]; exact hv) hy ht
  · exact best_early h hv ht

end Go.Proofs.YtnedgbebajhcpaaDoor
