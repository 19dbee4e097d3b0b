/- metal.columns, slices.Clone of fractions, metal.Valid; the reference's Valid, columns. -/
import Derived.Test.YtmfigiifflljpaaMetM
import Derived.Test.YtmfigiifflljpaaHold
set_option linter.unusedVariables false
set_option linter.unusedSimpArgs false
set_option maxRecDepth 100000
namespace Go.Proofs.Ytmfigiifflljpaa
open Go.RowKit Num

/-- A list of lists, of which the lengths alone are known. -/
def LMat (w : World) (v : Value) (ls : List Nat) : Prop :=
  ∃ A cap us, v = .slice A ls.length cap ∧ ls.length ≤ cap ∧ cap ≤ 9223372036854775807 ∧ Reads w 1 A ls.length us ∧ ∀ (k : Nat) (u : Value) (l : Nat), us[k]? = some u → ls[k]? = some l → ∃ A' c', u = .slice A' l c' ∧ l ≤ c' ∧ c' ≤ 9223372036854775807
theorem LMat.below {w w' : World} {v : Value} {ls : List Nat} (h : LMat w v ls) (hE : Ext w w') : LMat w' v ls := by
  obtain ⟨A, cap, us, h1, h2, h3, h4, h5⟩ := h
  exact ⟨A, cap, us, h1, h2, h3, h4.below hE, h5⟩
theorem LMat.form {w : World} {v : Value} {ls : List Nat} (h : LMat w v ls) : ∃ A c, v = .slice A ls.length c ∧ ls.length ≤ c ∧ c ≤ 9223372036854775807 := by
  obtain ⟨A, cap, us, h1, h2, h3, _⟩ := h
  exact ⟨A, cap, h1, h2, h3⟩
theorem LMat.at_ {w : World} {A : Option Addr} {m cp k l : Nat} {ls : List Nat} (h : LMat w (.slice A m cp) ls) (hk : ls[k]? = some l) :
    ∃ b o A' cp', A = some ⟨b, o, none⟩ ∧ b < w.heap.size ∧ w.cell? ⟨b, o + k, none⟩ = some (.slice A' l cp') ∧ l ≤ cp' ∧ cp' ≤ 9223372036854775807 := by
  obtain ⟨A0, cap, us, e, h2, h3, h4, h5⟩ := h
  injection e with e1 e2 e3
  subst e1
  have hlt : k < ls.length := (List.getElem?_eq_some_iff.1 hk).1
  obtain ⟨ad, u, rfl, hb, hu, hc⟩ := h4.at_ (k := k) hlt
  obtain ⟨ad0, u0, e0, _, _, hc0⟩ := h4.at_ (k := 0) (by omega)
  injection e0 with e0
  subst e0
  obtain ⟨bb, o, sp⟩ := ad
  have hsp : sp = none := by have := Go.Proofs.Ytmfigiifflljpaa.cell_spotF hc0; simpa [Addr.add] using this
  subst hsp
  have ha : (⟨bb, o, none⟩ : Addr).add k = ⟨bb, o + k, none⟩ := by
    unfold Addr.add
    by_cases hj : k = 0 <;> simp [hj]
  rw [ha] at hc
  obtain ⟨A', c', rfl, l1, l2⟩ := h5 k u l hu hk
  exact ⟨bb, o, A', c', rfl, hb, hc, l1, l2⟩
theorem EMat.lens {K : Bool} {w : World} {v : Value} {n c : Nat} {M : Mx} (h : EMat K w v n c M) : LMat w v (List.replicate n c) := by
  obtain ⟨A, cap, us, h1, h2, h3, h4, h5⟩ := h
  refine ⟨A, cap, us, by rw [List.length_replicate]; exact h1, by rw [List.length_replicate]; exact h2, h3, by rw [List.length_replicate]; exact h4, fun k u l hu hl => ?_⟩
  rw [List.getElem?_replicate] at hl
  split at hl
  · cases hl
    exact (h5 k u hu).form
  · cases hl
theorem mcols_l {v : Value} {ls : List Nat} {w : World} (h : LMat w v ls) : Calls Try.prog 44 #[v] w (fun e w' => e = .returned (.int .i64 ((ls.headD 0 : Nat) : Int)) ∧ w' = w) := by
  obtain ⟨A, c, rfl, _, _⟩ := h.form
  cases ls with
  | nil =>
    show Calls Try.prog 44 #[.slice A 0 c] w (fun e w' => e = .returned (.int .i64 ((0 : Nat) : Int)) ∧ w' = w)
    go_enter Try.func44, Try.ntmps44
    go_wp2
    go_ret
    exact ⟨rfl, rfl⟩
  | cons l ls =>
    obtain ⟨b, o, A', cp', rfl, hb, hc, _, _⟩ := h.at_ (k := 0) (l := l) rfl
    rw [Nat.add_zero] at hc
    show Calls Try.prog 44 #[.slice (some ⟨b, o, none⟩) (ls.length + 1) c] w (fun e w' => e = .returned (.int .i64 (l : Int)) ∧ w' = w)
    obtain ⟨n, hn⟩ : ∃ n, n = ls.length + 1 := ⟨_, rfl⟩
    rw [← hn]
    have h0 : ((n : Int) == 0) = false := by rw [beq_eq_false_iff_ne]; omega
    have h1 : ¬ ((n : Int) = 0) := by omega
    have h1' : ¬ (n = 0) := by omega
    have h2 : (0 : Int) < (n : Int) := by omega
    clear h hn
    go_enter Try.func44, Try.ntmps44
    go_wp2
    go_ret
    exact ⟨rfl, rfl⟩
theorem rcols_l {v : Value} {ls : List Nat} {w : World} (h : LMat w v ls) : Calls Try.prog 52 #[v] w (fun e w' => e = .returned (.int .i64 ((ls.headD 0 : Nat) : Int)) ∧ w' = w) := by
  obtain ⟨A, c, rfl, _, _⟩ := h.form
  cases ls with
  | nil =>
    show Calls Try.prog 52 #[.slice A 0 c] w (fun e w' => e = .returned (.int .i64 ((0 : Nat) : Int)) ∧ w' = w)
    go_enter Try.func52, Try.ntmps52
    go_wp2
    go_ret
    exact ⟨rfl, rfl⟩
  | cons l ls =>
    obtain ⟨b, o, A', cp', rfl, hb, hc, _, _⟩ := h.at_ (k := 0) (l := l) rfl
    rw [Nat.add_zero] at hc
    show Calls Try.prog 52 #[.slice (some ⟨b, o, none⟩) (ls.length + 1) c] w (fun e w' => e = .returned (.int .i64 (l : Int)) ∧ w' = w)
    obtain ⟨n, hn⟩ : ∃ n, n = ls.length + 1 := ⟨_, rfl⟩
    rw [← hn]
    have h0 : ((n : Int) == 0) = false := by rw [beq_eq_false_iff_ne]; omega
    have h1 : ¬ ((n : Int) = 0) := by omega
    have h1' : ¬ (n = 0) := by omega
    have h2 : (0 : Int) < (n : Int) := by omega
    clear h hn
    go_enter Try.func52, Try.ntmps52
    go_wp2
    go_ret
    exact ⟨rfl, rfl⟩

/-- A matrix: rows of one length, no more than eight of each. -/
def validL (ls : List Nat) : Prop := (∀ l ∈ ls, l = ls.headD 0 ∧ l ≤ 8) ∧ ls.length ≤ 8
instance (ls : List Nat) : Decidable (validL ls) := by unfold validL; infer_instance
/-- What the first k rows say. -/
def okTo (ls : List Nat) (k : Nat) : Prop := ∀ i, i < k → ∀ l, ls[i]? = some l → l = ls.headD 0 ∧ l ≤ 8
theorem okTo_all {ls : List Nat} (h : okTo ls ls.length) : ∀ l ∈ ls, l = ls.headD 0 ∧ l ≤ 8 := fun l hl => by
  obtain ⟨k, hk⟩ := List.getElem?_of_mem hl
  exact h k (List.getElem?_eq_some_iff.1 hk).1 l hk
theorem okTo_succ {ls : List Nat} {k l : Nat} (h : okTo ls k) (hl : ls[k]? = some l) (h1 : l = ls.headD 0) (h2 : l ≤ 8) : okTo ls (k + 1) := fun i hi x hx => by
  by_cases hik : i = k
  · subst hik
    rw [hl] at hx
    cases hx
    exact ⟨h1, h2⟩
  · exact h i (by omega) x hx

set_option maxHeartbeats 4000000 in
theorem mvalid_l {v : Value} {ls : List Nat} {w : World} (h : LMat w v ls) : Calls Try.prog 21 #[v] w (fun e w' => e = .returned (.bool (decide (validL ls))) ∧ Ext w w') := by
  obtain ⟨A, c, rfl, hc1, hc2⟩ := h.form
  have HV := Lib.hid (fun (w' : World) (hx : Ext w w') => h.below hx)
  obtain ⟨n, hn⟩ : ∃ n, n = ls.length := ⟨_, rfl⟩
  rw [← hn] at HV hc1 ⊢
  have HN := Lib.hid hn
  clear h hn
  go_enter Try.func21, Try.ntmps21
  go_wp2
  go_loopw [7] (fun iv wr => ∃ k : Nat, k ≤ n ∧ iv = .int .i64 k ∧ okTo ls k ∧ Ext w wr) (fun iv _ => n - (intOf iv).toNat)
  case atStart => exact ⟨0, Nat.zero_le _, rfl, fun i hi => by omega, Below.refl _ _⟩
  case round =>
    obtain ⟨k, hk, rfl, hok, hx⟩ := hrel
    by_cases hkn : k < n
    · obtain ⟨l, hl⟩ : ∃ l, ls[k]? = some l := ⟨_, List.getElem?_eq_getElem (by rw [← HN.out]; exact hkn)⟩
      obtain ⟨l0, hl0⟩ : ∃ l0, ls[0]? = some l0 := ⟨_, List.getElem?_eq_getElem (by rw [← HN.out]; omega)⟩
      have hhd : ls.headD 0 = l0 := by
        cases ls with
        | nil => simp at hl0
        | cons a ls => simpa using hl0
      obtain ⟨b, o, A', cp', rfl, hb, hc, l1, l2⟩ := (HV.out _ hx).at_ hl
      obtain ⟨b0, o0, A0, cp0, e0, hb0, hc0, m1, m2⟩ := (HV.out _ hx).at_ hl0
      obtain ⟨rfl, rfl⟩ : b = b0 ∧ o = o0 := by injection e0 with h; injection h with h1 h2; exact ⟨h1, h2⟩
      rw [Nat.add_zero] at hc0
      have HL := Lib.hid hl
      have HH := Lib.hid hhd
      have HOK := Lib.hid hok
      have hi1 : (0 : Int) ≤ (k : Int) := by omega
      have hi2 : (k : Int) < (n : Int) := by omega
      have hi3 : (0 : Int) < (n : Int) := by omega
      clear e0 hl hl0 hhd hok
      by_cases h1 : l = l0
      · have g1 : ((l : Int) != (l0 : Int)) = false := by rw [h1]; simp
        have g1' : ¬ ((l : Int) ≠ (l0 : Int)) := by omega
        by_cases h2 : l ≤ 8
        · have g2 : decide ((8 : Int) < (l : Int)) = false := decide_eq_false (by omega)
          have g2' : ¬ (8 < l) := by omega
          subst h1
          go_wp2
          go_roundw
          case rel => exact ⟨k + 1, by omega, by go_num, okTo_succ HOK.out HL.out HH.out.symm h2, hx⟩
          case measure => simp [intOf]; omega
        · have g2 : decide ((8 : Int) < (l : Int)) = true := decide_eq_true (by omega)
          have g2' : 8 < l := by omega
          subst h1
          go_wp2
          go_ret
          exact ⟨congrArg _ (congrArg _ (decide_eq_false fun hv => h2 (hv.1 l (List.mem_of_getElem? HL.out)).2).symm), hx⟩
      · have g1 : ((l : Int) != (l0 : Int)) = true := by rw [bne_iff_ne]; omega
        have g1' : ¬ ((l : Int) = (l0 : Int)) := by omega
        go_wp2
        go_ret
        exact ⟨congrArg _ (congrArg _ (decide_eq_false fun hv => h1 ((hv.1 l (List.mem_of_getElem? HL.out)).1.trans HH.out)).symm), hx⟩
    · obtain rfl : k = n := by omega
      have hkk : ¬ ((k : Int) < (k : Int)) := by omega
      have HA := Lib.hid (okTo_all (ls := ls) (by rw [← HN.out]; exact hok))
      clear hok
      by_cases h8 : k ≤ 8
      · have g8 : decide ((k : Int) ≤ 8) = true := decide_eq_true (by omega)
        go_wp2
        go_ret
        exact ⟨congrArg _ (congrArg _ (decide_eq_true (show validL ls from ⟨HA.out, by rw [← HN.out]; exact h8⟩)).symm), hx⟩
      · have g8 : decide ((k : Int) ≤ 8) = false := decide_eq_false (by omega)
        go_wp2
        go_ret
        exact ⟨congrArg _ (congrArg _ (decide_eq_false fun hv => h8 (by rw [HN.out]; exact hv.2)).symm), hx⟩


set_option maxHeartbeats 4000000 in
theorem rvalid_l {v : Value} {ls : List Nat} {w : World} (h : LMat w v ls) : Calls Try.prog 22 #[v] w (fun e w' => e = .returned (.bool (decide (validL ls))) ∧ Ext w w') := by
  obtain ⟨A, c, rfl, hc1, hc2⟩ := h.form
  have HV := Lib.hid (fun (w' : World) (hx : Ext w w') => h.below hx)
  obtain ⟨n, hn⟩ : ∃ n, n = ls.length := ⟨_, rfl⟩
  rw [← hn] at HV hc1 ⊢
  have HN := Lib.hid hn
  clear h hn
  by_cases h8 : n ≤ 8
  · have g8 : decide ((8 : Int) < (n : Int)) = false := decide_eq_false (by omega)
    have g8' : ¬ 8 < n := by omega
    go_enter Try.func22, Try.ntmps22
    go_wp2
    go_loopw [3] (fun iv wr => ∃ k : Nat, k ≤ n ∧ iv = .int .i64 k ∧ okTo ls k ∧ Ext w wr) (fun iv _ => n - (intOf iv).toNat)
    case atStart => exact ⟨0, Nat.zero_le _, rfl, fun i hi => by omega, Below.refl _ _⟩
    case round =>
      obtain ⟨k, hk, rfl, hok, hx⟩ := hrel
      by_cases hkn : k < n
      · obtain ⟨l, hl⟩ : ∃ l, ls[k]? = some l := ⟨_, List.getElem?_eq_getElem (by rw [← HN.out]; exact hkn)⟩
        obtain ⟨l0, hl0⟩ : ∃ l0, ls[0]? = some l0 := ⟨_, List.getElem?_eq_getElem (by rw [← HN.out]; omega)⟩
        have hhd : ls.headD 0 = l0 := by
          cases ls with
          | nil => simp at hl0
          | cons a ls => simpa using hl0
        obtain ⟨b, o, A', cp', rfl, hb, hc, l1, l2⟩ := (HV.out _ hx).at_ hl
        obtain ⟨b0, o0, A0, cp0, e0, hb0, hc0, m1, m2⟩ := (HV.out _ hx).at_ hl0
        obtain ⟨rfl, rfl⟩ : b = b0 ∧ o = o0 := by injection e0 with h; injection h with h1 h2; exact ⟨h1, h2⟩
        rw [Nat.add_zero] at hc0
        have HL := Lib.hid hl
        have HH := Lib.hid hhd
        have HOK := Lib.hid hok
        have hi1 : (0 : Int) ≤ (k : Int) := by omega
        have hi2 : (k : Int) < (n : Int) := by omega
        have hi3 : (0 : Int) < (n : Int) := by omega
        have hwk : IntKind.i64.wrap ((k : Int) + 1) = (k : Int) + 1 := wrap_in (by omega)
        clear e0 hl hl0 hhd hok
        by_cases h2 : l ≤ 8
        · have g2 : decide ((8 : Int) < (l : Int)) = false := decide_eq_false (by omega)
          have g2' : ¬ (8 < l) := by omega
          by_cases h1 : l = l0
          · have g1 : ((l : Int) != (l0 : Int)) = false := by rw [h1]; simp
            have g1' : ¬ ((l : Int) ≠ (l0 : Int)) := by omega
            subst h1
            go_wp2
            go_quiet (fail)
            go_wp2
            go_roundw
            case rel => exact ⟨k + 1, by omega, by go_num, okTo_succ HOK.out HL.out HH.out.symm h2, hx.drewN _⟩
            case measure => simp [intOf]; omega
          · have g1 : ((l : Int) != (l0 : Int)) = true := by rw [bne_iff_ne]; omega
            have g1' : ¬ ((l : Int) = (l0 : Int)) := by omega
            have g1'' : ¬ (l = l0) := by omega
            go_wp2
            go_quiet (fail)
            go_wp2
            go_ret
            exact ⟨congrArg _ (congrArg _ (decide_eq_false fun hv => h1 ((hv.1 l (List.mem_of_getElem? HL.out)).1.trans HH.out)).symm), hx.drewN _⟩
        · have g2 : decide ((8 : Int) < (l : Int)) = true := decide_eq_true (by omega)
          have g2' : 8 < l := by omega
          go_wp2
          go_quiet (fail)
          go_wp2
          go_ret
          exact ⟨congrArg _ (congrArg _ (decide_eq_false fun hv => h2 (hv.1 l (List.mem_of_getElem? HL.out)).2).symm), hx.drewN _⟩
      · obtain rfl : k = n := by omega
        have hkk : ¬ ((k : Int) < (k : Int)) := by omega
        have HA := Lib.hid (okTo_all (ls := ls) (by rw [← HN.out]; exact hok))
        clear hok
        go_wp2
        go_ret
        exact ⟨congrArg _ (congrArg _ (decide_eq_true (show validL ls from ⟨HA.out, by rw [← HN.out]; exact h8⟩)).symm), hx⟩
  · have g8 : decide ((8 : Int) < (n : Int)) = true := decide_eq_true (by omega)
    have g8' : 8 < n := by omega
    go_enter Try.func22, Try.ntmps22
    go_wp2
    go_ret
    exact ⟨congrArg _ (congrArg _ (decide_eq_false fun hv => h8 (by rw [HN.out]; exact hv.2)).symm), Below.refl _ _⟩

/-- A list of fractions, its cells named. -/
def EFsT (K : Bool) (w : World) (v : Value) (n : Nat) (f : Nat → Rat) (ts : List Fc) : Prop :=
  ∃ A cap, v = .slice A n cap ∧ n ≤ cap ∧ cap ≤ 9223372036854775807 ∧ ts.length = n ∧ Reads w 3 A n (fcells ts) ∧ ∀ (k : Nat) (t : Fc), ts[k]? = some t → Ent K w t.neg t.num t.den (f k)
theorem EFsT.below {K : Bool} {w w' : World} {v : Value} {n : Nat} {f : Nat → Rat} {ts : List Fc} (h : EFsT K w v n f ts) (hE : Ext w w') : EFsT K w' v n f ts := by
  obtain ⟨A, cap, h1, h2, h3, h4, h5, h6⟩ := h
  exact ⟨A, cap, h1, h2, h3, h4, h5.below hE, fun k t ht => (h6 k t ht).below hE⟩
theorem EFs.named {K : Bool} {w : World} {v : Value} {n : Nat} {f : Nat → Rat} (h : EFs K w v n f) : ∃ ts, EFsT K w v n f ts := by
  obtain ⟨A, cap, ts, h⟩ := h
  exact ⟨ts, A, cap, h⟩
theorem EFsT.ent {K : Bool} {w : World} {v : Value} {n : Nat} {f : Nat → Rat} {ts : List Fc} (h : EFsT K w v n f ts) : ts.length = n ∧ ∀ (k : Nat) (t : Fc), ts[k]? = some t → Ent K w t.neg t.num t.den (f k) := by
  obtain ⟨A, cap, h1, h2, h3, h4, h5, h6⟩ := h
  exact ⟨h4, h6⟩
theorem Ent.far {K : Bool} {w : World} {b : Bool} {s t v : Value} {q : Rat} (he : Ent K w b s t q) (hN : New w.heap.size v) : Far s v ∧ Far t v := by
  rcases he with he | ⟨_, a, d, ⟨xs, a1, _⟩, ⟨ys, a2, _⟩, _⟩
  · exact ⟨Far.new he.2.1 hN, Far.new he.2.2 hN⟩
  · exact ⟨Far.new a1 hN, Far.new a2 hN⟩
/-- What slices.Clone of fractions gives: a row of the call's own. -/
def GivesRow (w : World) (n : Nat) (ts : List Fc) (e : Ending) (w' : World) : Prop :=
  ∃ A c, e = .returned (.slice A n c) ∧ w'.ownsRow w.heap.size 34 3 (.slice A n c) n (fcells ts) ∧ Ext w w'
set_option maxHeartbeats 1000000 in
theorem eclone_n {K : Bool} {v : Value} {n : Nat} {f : Nat → Rat} {ts : List Fc} {w : World} (hv : EFsT K w v n f ts) (hl : n ≤ 100) :
    Calls Try.prog 45 #[v] w (GivesRow w n ts) := by
  obtain ⟨A, cap, rfl, h2, h3, h4, h5, h6⟩ := hv
  obtain ⟨i0, hi, hz0, hz1, hz2⟩ := info_parts info_frac
  have hnil := fun (W : World) => Lib.run_eql_slice_nil (P := Try.prog) W 39 34 A n cap 0 0 Try.underlying39
  cases A with
  | none =>
    have h0 : n = 0 := by
      rcases Nat.eq_zero_or_pos n with h | h
      · exact h
      · obtain ⟨ad, e, _⟩ := h5.2 h
        cases e
    subst h0
    obtain rfl : ts = [] := List.eq_nil_of_length_eq_zero h4
    clear h5 h2
    simp only [Option.isNone_none] at hnil
    go_enter Try.func45, Try.ntmps45
    go_wp2
    go_ret
    exact ⟨none, 0, rfl, World.ownsRow_nil _ _ _ _, Below.refl _ _⟩
  | some ad =>
    simp only [Option.isNone_some] at hnil
    have hown0 : (w.alloc (.cells #[] 34)).ownsRow w.heap.size 34 3 (.slice (some ⟨w.heap.size, 0, none⟩) 0 0) 0 [] :=
      World.ownsRow_lit (base := w.heap.size) w #[] 0 (Nat.le_refl _) (by unfold maxLen; omega) rfl
    have hcells : ∀ j u, (fcells ts)[j]? = some u → w.cell? (ad.add j) = some u ∧ ad.block < w.heap.size := by
      intro j u hu
      have : j < (fcells ts).length := (List.getElem?_eq_some_iff.1 hu).1
      rw [fcells_length] at this
      obtain ⟨ad', e, hb, hc⟩ := h5.2 (by omega)
      injection e with e
      subst e
      exact ⟨hc j u hu, hb⟩
    have hcells' : ∀ j u, (fcells ts)[j]? = some u → (w.alloc (.cells #[] 34)).cell? (ad.add j) = some u := fun j u hu => by
      obtain ⟨h1, hb⟩ := hcells j u hu
      rw [World.cell?_alloc_lt _ _ _ (by rw [block_of_add]; exact hb)]; exact h1
    have hone : ∀ u ∈ fcells ts, u.oneCell' = true := fcells_one fun t ht => by
      obtain ⟨k, hk⟩ := List.getElem?_of_mem ht
      obtain ⟨A1, k1, c1, A2, k2, c2, e1, e2⟩ := (h6 k t hk).form
      rw [e1, e2]
      exact ⟨rfl, rfl⟩
    go_enter Try.func45, Try.ntmps45
    go_wp2_with (first | (at_builtin; refine wpList_append_mine _ (by rfl) _ _ 39 (by rfl) w.heap.size 34 i0 (.agg #[.bool false, .slice none 0 0, .slice none 0 0]) 3 56 Try.underlying39 hi hz0 hz1 hz2 rfl (by omega) _ 0 [] (by rfl) hown0 ad n cap (fcells ts) (by rfl) (by rw [fcells_length, h4]) hcells' hone (by unfold maxLen; omega) (by omega) (by simp) ?_))
    intro v' w1 hown1 hgrow1 hnew
    have hb : Ext w w1 := ((Below.refl _ _).alloc (Nat.le_refl _) _).grown hgrow1 (by simp) (by simp [Value.ownBlock])
    clear hgrow1
    obtain ⟨A', c', rfl⟩ : ∃ A' c', v' = .slice A' n c' := by
      rcases hown1.2 with ⟨h, h0⟩ | ⟨g, cp, cur, h, _⟩
      · exact ⟨_, _, by rw [h, h0]⟩
      · exact ⟨_, _, h⟩
    go_wp2
    go_ret
    exact ⟨A', c', rfl, hown1, hb⟩

end Go.Proofs.Ytmfigiifflljpaa
