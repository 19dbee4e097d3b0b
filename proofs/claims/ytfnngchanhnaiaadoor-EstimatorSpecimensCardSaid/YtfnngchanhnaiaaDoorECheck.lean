/- specimen.Check, base.Check. -/
import Derived.Test.YtfnngchanhnaiaaDoorESpec
import Derived.Test.YtfnngchanhnaiaaDoorHold
set_option linter.unusedVariables false
set_option linter.unusedSimpArgs false
set_option maxRecDepth 100000
namespace Go.Proofs.YtfnngchanhnaiaaDoor
open Go.RowKit Num Go.Maps

/-- What Check answers for at most 64 specimens. -/
def ChkIs (l : List Sp) (z : Int) : Prop := (AllOk l ∧ (ids l).Nodup ∧ z = 0) ∨ (AllOk l ∧ ¬ (ids l).Nodup ∧ z = 8) ∨ (¬ AllOk l ∧ z = 1)
theorem ids_snoc {l : List Sp} {k : Nat} {s : Sp} (h : l[k]? = some s) : ids (l.take (k + 1)) = ids (l.take k) ++ [s.id] := by
  unfold ids
  rw [List.take_add_one, h, List.map_append]
  rfl
theorem nodup_snoc {xs : List Int} {x : Int} : (xs ++ [x]).Nodup ↔ xs.Nodup ∧ x ∉ xs := by
  rw [List.nodup_append]
  constructor
  · rintro ⟨h1, _, h3⟩
    exact ⟨h1, fun hx => h3 x hx x (by simp) rfl⟩
  · rintro ⟨h1, h2⟩
    exact ⟨h1, by simp, fun a ha b hb e => by
      obtain rfl : b = x := by simpa using hb
      exact h2 (e ▸ ha)⟩
theorem allOk_snoc {l : List Sp} {k : Nat} {s : Sp} (h : l[k]? = some s) (ha : AllOk (l.take k)) (hs : s.Ok) : AllOk (l.take (k + 1)) := by
  intro t ht
  rw [List.take_add_one, h, List.mem_append] at ht
  rcases ht with ht | ht
  · exact ha t ht
  · obtain rfl : t = s := by simpa using ht
    exact hs
theorem wf_id {s : Sp} (h : s.Ok) : (Lit.int .i64 s.id).wf = true := by
  have h1 := h.2.2.2.2.1
  simp [Lit.wf, IntKind.min, IntKind.max, IntKind.signed, IntKind.bits]
  omega

set_option maxHeartbeats 8000000 in
theorem scheck_n {l : List Sp} {A : Option Addr} {c : Nat} {z : Int} {w : World} (hv : SpecsV w (.slice A l.length c) l) (hl : l.length ≤ 64) (hz : ChkIs l z) :
    Calls Tryd.prog 14 #[.slice A l.length c] w (fun e w' => e = .returned (.int .i64 z) ∧ Ext w w') := by
  have HV := Lib.hid (fun (w' : World) (h : Ext w w') => hv.below h)
  have HZ := Lib.hid hz
  obtain ⟨n, hn⟩ : ∃ n, n = l.length := ⟨_, rfl⟩
  rw [← hn] at HV hl ⊢
  have HN := Lib.hid hn
  have e64 : decide ((64 : Int) < (n : Int)) = false := decide_eq_false (by omega)
  have e64' : ¬ 64 < n := by omega
  clear hv hz hn
  have hmm := @run_makeMap Tryd.prog
  go_enter Tryd.func14, Tryd.ntmps14
  go_wp2
  go_loopw [4, 13] (fun tv iv wr => ∃ (k : Nat) (β : Bool) (D : DataW Unit), k ≤ n ∧ iv = .int .i64 k ∧ tv = .bool β ∧ Hid (β = true ↔ ¬ (ids (l.take k)).Nodup) ∧ Hid (AllOk (l.take k)) ∧ Hid (SetI D (ids (l.take k))) ∧ wr.ownsMap Tryd.prog 3 (plainElem Tryd.prog 4) w.heap.size k D ∧ Ext w wr) (fun _ iv _ => n - (intOf iv).toNat)
  case atStart => exact ⟨0, false, _, Nat.zero_le _, rfl, rfl, Lib.hid ⟨fun h => (by cases h), fun h => absurd (by simp [ids]) h⟩, Lib.hid (by intro s hs; simp at hs), Lib.hid SetI.nil, World.ownsMap_made _ _ _ _, ext_alloc (Below.refl _ _) _⟩
  case round =>
    obtain ⟨k, β, D, hk, rfl, rfl, HB, HA, HS, hown, hX⟩ := hrel
    by_cases hkn : k < n
    · obtain ⟨s, hs⟩ : ∃ s, l[k]? = some s := ⟨_, List.getElem?_eq_getElem (by rw [← HN.out]; exact hkn)⟩
      have HSK := Lib.hid hs
      obtain ⟨b, o, rfl, hb, c0, c1, c2, c3, c4, c5, c6⟩ := (HV.out _ hX).pl hs
      have HOWN := Lib.hid hown
      have hi1 : (0 : Int) ≤ (k : Int) := by omega
      have hi2 : (k : Int) < (n : Int) := by omega
      have hwk : IntKind.i64.wrap ((k : Int) + 1) = (k : Int) + 1 := wrap_in (by omega)
      have hmb := hown.lt
      have hwz := hX.size
      clear hs hown
      go_upto_region 8 with (fail)
      have q0 : (wr.alloc (.cells #[.int .i64 s.id, .int .i64 s.obv, .int .i64 s.rev, .int .i64 s.os, .int .i64 s.rs, .int .i64 s.ax, .int .i64 s.wt] 32)).cell? ⟨wr.heap.size, 0, none⟩ = some (.int .i64 s.id) := by simp [go_sem]
      have q1 : (wr.alloc (.cells #[.int .i64 s.id, .int .i64 s.obv, .int .i64 s.rev, .int .i64 s.os, .int .i64 s.rs, .int .i64 s.ax, .int .i64 s.wt] 32)).cell? ⟨wr.heap.size, 1, none⟩ = some (.int .i64 s.obv) := by simp [go_sem]
      have q2 : (wr.alloc (.cells #[.int .i64 s.id, .int .i64 s.obv, .int .i64 s.rev, .int .i64 s.os, .int .i64 s.rs, .int .i64 s.ax, .int .i64 s.wt] 32)).cell? ⟨wr.heap.size, 2, none⟩ = some (.int .i64 s.rev) := by simp [go_sem]
      have q3 : (wr.alloc (.cells #[.int .i64 s.id, .int .i64 s.obv, .int .i64 s.rev, .int .i64 s.os, .int .i64 s.rs, .int .i64 s.ax, .int .i64 s.wt] 32)).cell? ⟨wr.heap.size, 3, none⟩ = some (.int .i64 s.os) := by simp [go_sem]
      have q4 : (wr.alloc (.cells #[.int .i64 s.id, .int .i64 s.obv, .int .i64 s.rev, .int .i64 s.os, .int .i64 s.rs, .int .i64 s.ax, .int .i64 s.wt] 32)).cell? ⟨wr.heap.size, 4, none⟩ = some (.int .i64 s.rs) := by simp [go_sem]
      have q5 : (wr.alloc (.cells #[.int .i64 s.id, .int .i64 s.obv, .int .i64 s.rev, .int .i64 s.os, .int .i64 s.rs, .int .i64 s.ax, .int .i64 s.wt] 32)).cell? ⟨wr.heap.size, 5, none⟩ = some (.int .i64 s.ax) := by simp [go_sem]
      have q6 : (wr.alloc (.cells #[.int .i64 s.id, .int .i64 s.obv, .int .i64 s.rev, .int .i64 s.os, .int .i64 s.rs, .int .i64 s.ax, .int .i64 s.wt] 32)).cell? ⟨wr.heap.size, 6, none⟩ = some (.int .i64 s.wt) := by simp [go_sem]
      have xB : Ext wr (wr.alloc (.cells #[.int .i64 s.id, .int .i64 s.obv, .int .i64 s.rev, .int .i64 s.os, .int .i64 s.rs, .int .i64 s.ax, .int .i64 s.wt] 32)) := ext_alloc (Below.refl _ _) _
      generalize wr.alloc (.cells #[.int .i64 s.id, .int .i64 s.obv, .int .i64 s.rev, .int .i64 s.os, .int .i64 s.rs, .int .i64 s.ax, .int .i64 s.wt] 32) = WB at *
      have HQ := Lib.hid (fun (w' : World) (h : Ext WB w') => ((h.cell (p := ⟨wr.heap.size, 0, none⟩) (World.block_lt_of_cell? _ _ q0)).trans q0 : w'.cell? ⟨wr.heap.size, 0, none⟩ = some (.int .i64 s.id)))
      clear c0 c1 c2 c3 c4 c5 c6
      by_cases hok : s.Ok
      · have HOK := Lib.hid hok
        have HSP := Lib.hid ((HS.out).put s.id)
        have HNB := Lib.hid (show ids (l.take (k + 1)) = ids (l.take k) ++ [s.id] from ids_snoc HSK.out)
        have HAN := Lib.hid (allOk_snoc HSK.out HA.out hok)
        have hkey : keyOf Tryd.prog 3 (.int .i64 s.id) = some (.int .i64 s.id) := keyOf_int_mk Tryd.underlying3 (wf_id hok)
        have HKEY := Lib.hid hkey
        clear hok hkey
        go_upto_region 10 with (go_at_call 24; (with_reducible refine (svalid_t HOK.out).mono ?_); rintro _ s1 ⟨rfl, z1⟩)
        have X1 : Ext wr s1 := xB.trans z1
        have q0 := HQ.out _ z1
        have hown1 : s1.ownsMap Tryd.prog 3 (plainElem Tryd.prog 4) w.heap.size k D := World.ownsMap.kept HOWN.out (Ext.grown X1) (by simp)
        have HO1 := Lib.hid hown1
        have XS1 := hX.trans X1
        have hsz1 := XS1.size
        clear hown1 q1 q2 q3 q4 q5 q6
        cases β with
        | true =>
          go_wp2_with (at_mapUpdate; refine wpList_mapUpdate_own _ rfl _ _ _ 54 rfl 3 4 (int_keyed Tryd.underlying3) Tryd.underlying54 _ w.heap.size k _ rfl HO1.out (by unfold maxLen; omega) _ _ _ rfl rfl HKEY.out _ [] (plainElem_bool Tryd.underlying4 true) ?_; intro w9 hown9 hgrow9)
          have hX9 : Ext w w9 := Below.grown XS1 hgrow9 hsz1 (fun j hj => by cases hj; exact Nat.le_refl _)
          have HO9 := Lib.hid hown9
          have HB9 := Lib.hid (show true = true ↔ ¬ (ids (l.take (k + 1))).Nodup from ⟨fun _ => by rw [HNB.out, nodup_snoc]; exact fun h => (HB.out.1 rfl) h.1, fun _ => rfl⟩)
          have HS9 := Lib.hid (show SetI _ (ids (l.take (k + 1))) from by rw [HNB.out]; exact HSP.out)
          clear hown9 hgrow9
          go_wp2
          go_roundw
          case rel => first | exact ⟨k + 1, true, _, by omega, by go_num, rfl, HB9, HAN, HS9, HO9.out, hX9⟩ | exact ⟨k + 1, true, _, by omega, by go_num, rfl, HB9, HAN, HS9, HO9.out⟩
          case measure => simp [intOf]; omega
        | false =>
          go_wp2_with (first
            | (at_lookup; refine wpList_lookup_own_bool _ (by rfl) _ _ 54 rfl 3 4 (int_keyed Tryd.underlying3) Tryd.underlying54 Tryd.underlying4 (by kernel_rfl) w.heap.size k _ rfl HO1.out _ _ rfl HKEY.out ?_; intro ch hat)
            | (at_mapUpdate; refine wpList_mapUpdate_own _ rfl _ _ _ 54 rfl 3 4 (int_keyed Tryd.underlying3) Tryd.underlying54 _ w.heap.size k _ rfl HO1.out (by unfold maxLen; omega) _ _ _ rfl rfl HKEY.out _ [] (plainElem_bool Tryd.underlying4 true) ?_; intro w9 hown9 hgrow9))
          have hX9 : Ext w w9 := Below.grown XS1 hgrow9 hsz1 (fun j hj => by cases hj; exact Nat.le_refl _)
          have HO9 := Lib.hid hown9
          have hch : ch = decide (s.id ∈ ids (l.take k)) := by
            have h := HS.out.2 s.id
            rw [hat] at h
            injection h with h
            injection h with h
          have HB9 := Lib.hid (show ch = true ↔ ¬ (ids (l.take (k + 1))).Nodup from by
            rw [HNB.out, nodup_snoc, hch, decide_eq_true_iff]
            have hnd : (ids (l.take k)).Nodup := Classical.byContradiction fun h => by have := HB.out.2 h; cases this
            exact ⟨fun h h2 => h2.2 h, fun h => Classical.byContradiction fun h2 => h ⟨hnd, h2⟩⟩)
          have HS9 := Lib.hid (show SetI _ (ids (l.take (k + 1))) from by rw [HNB.out]; exact HSP.out)
          clear hown9 hgrow9 hch hat
          go_wp2
          go_roundw
          case rel => first | exact ⟨k + 1, ch, _, by omega, by go_num, rfl, HB9, HAN, HS9, HO9.out, hX9⟩ | exact ⟨k + 1, ch, _, by omega, by go_num, rfl, HB9, HAN, HS9, HO9.out⟩
          case measure => simp [intOf]; omega
      · have HOK := Lib.hid hok
        obtain rfl : z = 1 := by
          rcases HZ.out with ⟨h, _⟩ | ⟨h, _⟩ | ⟨_, h⟩
          · exact absurd (h s (List.mem_of_getElem? HSK.out)) hok
          · exact absurd (h s (List.mem_of_getElem? HSK.out)) hok
          · exact h
        clear hok
        go_wp2_with (go_at_call 24; (with_reducible refine (svalid_f HOK.out).mono ?_); rintro _ s1 ⟨rfl, z1⟩)
        go_ret
        exact ⟨rfl, hX.trans (xB.trans z1)⟩
    · obtain rfl : k = n := by omega
      have hkk : ¬ ((k : Int) < (k : Int)) := by omega
      have htk : l.take k = l := by rw [HN.out, List.take_length]
      have hA := HA.out
      have hB := HB.out
      rw [htk] at hA hB
      cases β with
      | true =>
        obtain rfl : z = 8 := by
          rcases HZ.out with ⟨_, h, _⟩ | ⟨_, _, h⟩ | ⟨h, _⟩
          · exact absurd h (hB.1 rfl)
          · exact h
          · exact absurd hA h
        clear hA hB htk
        go_wp2
        go_ret
        exact ⟨rfl, hX⟩
      | false =>
        obtain rfl : z = 0 := by
          rcases HZ.out with ⟨_, _, h⟩ | ⟨_, h, _⟩ | ⟨h, _⟩
          · exact h
          · have := hB.2 h; cases this
          · exact absurd hA h
        clear hA hB htk
        go_wp2
        go_ret
        exact ⟨rfl, hX⟩

theorem scheck_full {n c : Nat} {A : Option Addr} {w : World} (hl : 64 < n) : Calls Tryd.prog 14 #[.slice A n c] w (fun e w' => e = .returned (.int .i64 6) ∧ Ext w w') := by
  have e64 : decide ((64 : Int) < (n : Int)) = true := decide_eq_true (by omega)
  go_enter Tryd.func14, Tryd.ntmps14
  go_wp2
  go_ret
  exact ⟨rfl, Below.refl _ _⟩
theorem rcheck_full {n c : Nat} {A : Option Addr} {w : World} (hl : 64 < n) : Calls Tryd.prog 17 #[.slice A n c] w (fun e w' => e = .returned (.int .i64 6) ∧ Ext w w') := by
  have e64 : decide ((64 : Int) < (n : Int)) = true := decide_eq_true (by omega)
  go_enter Tryd.func17, Tryd.ntmps17
  go_wp2
  go_ret
  exact ⟨rfl, Below.refl _ _⟩

set_option maxHeartbeats 8000000 in
theorem rcheck_n {l : List Sp} {A : Option Addr} {c : Nat} {z : Int} {w : World} (hv : SpecsV w (.slice A l.length c) l) (hl : l.length ≤ 64) (hz : ChkIs l z) :
    Calls Tryd.prog 17 #[.slice A l.length c] w (fun e w' => e = .returned (.int .i64 z) ∧ Ext w w') := by
  have HV := Lib.hid (fun (w' : World) (h : Ext w w') => hv.below h)
  have HZ := Lib.hid hz
  obtain ⟨n, hn⟩ : ∃ n, n = l.length := ⟨_, rfl⟩
  rw [← hn] at HV hl ⊢
  have HN := Lib.hid hn
  have e64 : decide ((64 : Int) < (n : Int)) = false := decide_eq_false (by omega)
  have e64' : ¬ 64 < n := by omega
  clear hv hz hn
  go_enter Tryd.func17, Tryd.ntmps17
  go_wp2
  go_loopw [3] (fun iv wr => ∃ k : Nat, k ≤ n ∧ iv = .int .i64 k ∧ Hid (AllOk (l.take k)) ∧ Ext w wr) (fun iv _ => n - (intOf iv).toNat)
  case atStart => exact ⟨0, Nat.zero_le _, rfl, Lib.hid (by intro s hs; simp at hs), Below.refl _ _⟩
  case round =>
    obtain ⟨k, hk, rfl, HA, hX⟩ := hrel
    by_cases hkn : k < n
    · obtain ⟨s, hs⟩ : ∃ s, l[k]? = some s := ⟨_, List.getElem?_eq_getElem (by rw [← HN.out]; exact hkn)⟩
      have HSK := Lib.hid hs
      obtain ⟨b, o, rfl, hb, c0, c1, c2, c3, c4, c5, c6⟩ := (HV.out _ hX).pl hs
      have hi1 : (0 : Int) ≤ (k : Int) := by omega
      have hi2 : (k : Int) < (n : Int) := by omega
      have hwk : IntKind.i64.wrap ((k : Int) + 1) = (k : Int) + 1 := wrap_in (by omega)
      clear hs
      by_cases hok : s.Ok
      · have HOK := Lib.hid hok
        have HAN := Lib.hid (allOk_snoc HSK.out HA.out hok)
        clear hok
        go_wp2_with (go_at_call 26; (with_reducible refine (rspec_t HOK.out).mono ?_); rintro _ s1 ⟨rfl, z1⟩)
        go_roundw
        case rel => exact ⟨k + 1, by omega, by go_num, HAN, hX.trans z1⟩
        case measure => simp [intOf]; omega
      · have HOK := Lib.hid hok
        obtain rfl : z = 1 := by
          rcases HZ.out with ⟨h, _⟩ | ⟨h, _⟩ | ⟨_, h⟩
          · exact absurd (h s (List.mem_of_getElem? HSK.out)) hok
          · exact absurd (h s (List.mem_of_getElem? HSK.out)) hok
          · exact h
        clear hok
        go_wp2_with (go_at_call 26; (with_reducible refine (rspec_f HOK.out).mono ?_); rintro _ s1 ⟨rfl, z1⟩)
        go_ret
        exact ⟨rfl, hX.trans z1⟩
    · obtain rfl : k = n := by omega
      have hkk : ¬ ((k : Int) < (k : Int)) := by omega
      have hA := HA.out
      rw [HN.out, List.take_length] at hA
      have HAL := Lib.hid hA
      clear hA HA
      go_wp2
      go_loopw [4] (fun iv wr => ∃ i : Nat, i ≤ k ∧ iv = .int .i64 i ∧ Hid ((ids (l.take i)).Nodup) ∧ Ext w wr) (fun iv _ => k - (intOf iv).toNat)
      case atStart => exact ⟨0, Nat.zero_le _, rfl, Lib.hid (by simp [ids]), hX⟩
      case round =>
        clear hX
        obtain ⟨i, hi, rfl, HD, hX⟩ := hrel
        by_cases hik : i < k
        · obtain ⟨s, hs⟩ : ∃ s, l[i]? = some s := ⟨_, List.getElem?_eq_getElem (by rw [← HN.out]; exact hik)⟩
          have HSK := Lib.hid hs
          have hi1 : (0 : Int) ≤ (i : Int) := by omega
          have hi2 : (i : Int) < (k : Int) := by omega
          have hwi : IntKind.i64.wrap ((i : Int) + 1) = (i : Int) + 1 := wrap_in (by omega)
          clear hs
          go_wp2
          go_loopw [5] (fun jv wr => ∃ j : Nat, j ≤ i ∧ jv = .int .i64 j ∧ Hid (s.id ∉ ids (l.take j)) ∧ Ext w wr) (fun jv _ => i - (intOf jv).toNat)
          case atStart => exact ⟨0, Nat.zero_le _, rfl, Lib.hid (by simp [ids]), hX⟩
          case round =>
            clear hX
            obtain ⟨j, hj, rfl, HNJ, hX⟩ := hrel
            by_cases hji : j < i
            · obtain ⟨t, ht⟩ : ∃ t, l[j]? = some t := ⟨_, List.getElem?_eq_getElem (by rw [← HN.out]; omega)⟩
              have HTK := Lib.hid ht
              obtain ⟨b, o, rfl, hb, c0, _⟩ := (HV.out _ hX).pl HSK.out
              obtain ⟨b', o', he, _, d0, _⟩ := (HV.out _ hX).pl ht
              injection he with he
              injection he with he1 he2
              subst he1 he2
              have hj1 : (0 : Int) ≤ (j : Int) := by omega
              have hj2 : (j : Int) < (k : Int) := by omega
              have hj3 : (j : Int) < (i : Int) := by omega
              have hwj : IntKind.i64.wrap ((j : Int) + 1) = (j : Int) + 1 := wrap_in (by omega)
              have HS := Lib.hid (fun (w' : World) (h : Ext wr w') => (⟨(h.cell (p := ⟨b, o + i * 7, none⟩) hb).trans c0, (h.cell (p := ⟨b, o + j * 7, none⟩) hb).trans d0⟩ : w'.cell? ⟨b, o + i * 7, none⟩ = some (.int .i64 s.id) ∧ w'.cell? ⟨b, o + j * 7, none⟩ = some (.int .i64 t.id)))
              clear ht c0 d0
              by_cases he : s.id = t.id
              · obtain rfl : z = 8 := by
                  rcases HZ.out with ⟨_, h, _⟩ | ⟨_, _, h⟩ | ⟨h, _⟩
                  · exfalso
                    have h1 : i < (ids l).length := by unfold ids; rw [List.length_map]; rw [← HN.out]; exact hik
                    have h2 : (ids l)[i]? = some s.id := by unfold ids; rw [List.getElem?_map, HSK.out]; rfl
                    have h3 : (ids l)[j]? = some t.id := by unfold ids; rw [List.getElem?_map, HTK.out]; rfl
                    rw [← he, ← h2] at h3
                    have h4 := (List.getElem?_inj (i := i) (j := j) h1 h).1 h3.symm
                    omega
                  · exact h
                  · exact absurd HAL.out h
                have he1 : (s.id == t.id) = true := by rw [beq_iff_eq]; exact he
                have HEE := Lib.hid he
                clear he
                go_upto_region 14 with (fail)
                refine wp_region_G (fun w' => Ext wr w') [10] (by kernel_rfl) ?_
                have gS : Ext wr wr.drew := (Below.refl _ _).drew
                refine wpAnyG_take 0 (v := ?_) rfl (by kernel_rfl) (by kernel_rfl) (by kernel_rfl) (by kernel_rfl) (by rfl) (by kernel_rfl) (fun _ _ _ h => h) (by rfl) (fun w' hw' => ?_) gS ?_
                rotate_left
                focus (go_simp; (try with_reducible rfl); done)
                (try simp only [Act.put, List.getElem_toArray, List.getElem_cons_succ, List.getElem_cons_zero, List.setIfInBounds_toArray, List.set_cons_zero, List.set_cons_succ])
                refine wpAnyG_take 1 (v := ?_) rfl (by kernel_rfl) (by kernel_rfl) (by kernel_rfl) (by kernel_rfl) (by rfl) (by kernel_rfl) (fun _ _ _ h => h) (by rfl) (fun w' hw' => ?_) gS ?_
                rotate_left
                focus (go_simp; (try with_reducible rfl); done)
                (try simp only [Act.put, List.getElem_toArray, List.getElem_cons_succ, List.getElem_cons_zero, List.setIfInBounds_toArray, List.set_cons_zero, List.set_cons_succ])
                refine wpAnyG_take 2 (v := ?_) rfl (by kernel_rfl) (by kernel_rfl) (by kernel_rfl) (by kernel_rfl) (by rfl) (by kernel_rfl) (fun _ _ _ h => h) (by rfl) (fun w' hw' => ?_) gS ?_
                rotate_left
                focus (go_simp; (try with_reducible rfl); done)
                (try simp only [Act.put, List.getElem_toArray, List.getElem_cons_succ, List.getElem_cons_zero, List.setIfInBounds_toArray, List.set_cons_zero, List.set_cons_succ])
                refine wpAnyG_take 3 (v := ?_) rfl (by kernel_rfl) (by kernel_rfl) (by kernel_rfl) (by kernel_rfl) (by rfl) (by kernel_rfl) (fun _ _ _ h => h) (by rfl) (fun w' hw' => ?_) gS ?_
                rotate_left
                focus (go_simp; (try with_reducible rfl); done)
                (try simp only [Act.put, List.getElem_toArray, List.getElem_cons_succ, List.getElem_cons_zero, List.setIfInBounds_toArray, List.set_cons_zero, List.set_cons_succ])
                refine wpAnyG_take 4 (v := ?_) rfl (by kernel_rfl) (by kernel_rfl) (by kernel_rfl) (by kernel_rfl) (by rfl) (by kernel_rfl) (fun _ _ _ h => h) (by rfl) (fun w' hw' => ?_) gS ?_
                rotate_left
                focus (have hh := HS.out _ hw'; go_split_ands; go_simp; (try with_reducible rfl); done)
                (try simp only [Act.put, List.getElem_toArray, List.getElem_cons_succ, List.getElem_cons_zero, List.setIfInBounds_toArray, List.set_cons_zero, List.set_cons_succ])
                refine wpAnyG_take 5 (v := ?_) rfl (by kernel_rfl) (by kernel_rfl) (by kernel_rfl) (by kernel_rfl) (by rfl) (by kernel_rfl) (fun _ _ _ h => h) (by rfl) (fun w' hw' => ?_) gS ?_
                rotate_left
                focus (go_simp; (try with_reducible rfl); done)
                (try simp only [Act.put, List.getElem_toArray, List.getElem_cons_succ, List.getElem_cons_zero, List.setIfInBounds_toArray, List.set_cons_zero, List.set_cons_succ])
                refine wpAnyG_take 6 (v := ?_) rfl (by kernel_rfl) (by kernel_rfl) (by kernel_rfl) (by kernel_rfl) (by rfl) (by kernel_rfl) (fun _ _ _ h => h) (by rfl) (fun w' hw' => ?_) gS ?_
                rotate_left
                focus (go_simp; (try with_reducible rfl); done)
                (try simp only [Act.put, List.getElem_toArray, List.getElem_cons_succ, List.getElem_cons_zero, List.setIfInBounds_toArray, List.set_cons_zero, List.set_cons_succ])
                refine wpAnyG_take 7 (v := ?_) rfl (by kernel_rfl) (by kernel_rfl) (by kernel_rfl) (by kernel_rfl) (by rfl) (by kernel_rfl) (fun _ _ _ h => h) (by rfl) (fun w' hw' => ?_) gS ?_
                rotate_left
                focus (go_simp; (try with_reducible rfl); done)
                (try simp only [Act.put, List.getElem_toArray, List.getElem_cons_succ, List.getElem_cons_zero, List.setIfInBounds_toArray, List.set_cons_zero, List.set_cons_succ])
                refine wpAnyG_take 8 (v := ?_) rfl (by kernel_rfl) (by kernel_rfl) (by kernel_rfl) (by kernel_rfl) (by rfl) (by kernel_rfl) (fun _ _ _ h => h) (by rfl) (fun w' hw' => ?_) gS ?_
                rotate_left
                focus (go_simp; (try with_reducible rfl); done)
                (try simp only [Act.put, List.getElem_toArray, List.getElem_cons_succ, List.getElem_cons_zero, List.setIfInBounds_toArray, List.set_cons_zero, List.set_cons_succ])
                refine wpAnyG_take 9 (v := ?_) rfl (by kernel_rfl) (by kernel_rfl) (by kernel_rfl) (by kernel_rfl) (by rfl) (by kernel_rfl) (fun _ _ _ h => h) (by rfl) (fun w' hw' => ?_) gS ?_
                rotate_left
                focus (have hh := HS.out _ hw'; go_split_ands; go_simp; (try with_reducible rfl); done)
                (try simp only [Act.put, List.getElem_toArray, List.getElem_cons_succ, List.getElem_cons_zero, List.setIfInBounds_toArray, List.set_cons_zero, List.set_cons_succ])
                refine wpAnyG_one 10 (by kernel_rfl) rfl (by rfl) (fun K hK => ?_)
                (try simp only [List.getElem_toArray, List.getElem_cons_succ, List.getElem_cons_zero])
                go_simp
                refine hK.out _ _ (fun h => absurd h (by decide)) ?_
                clear hK K
                (try simp only [Act.put, List.getElem_toArray, List.getElem_cons_succ, List.getElem_cons_zero, List.setIfInBounds_toArray, List.set_cons_zero, List.set_cons_succ])
                refine wpAnyG_done (by kernel_rfl) ?_ _
                go_wp2
                go_ret
                exact ⟨rfl, hX.drew⟩
              · have he1 : (s.id == t.id) = false := by rw [beq_eq_false_iff_ne]; exact he
                have HNN := Lib.hid (show s.id ∉ ids (l.take (j + 1)) from by
                  rw [ids_snoc HTK.out, List.mem_append]
                  rintro (h | h)
                  · exact HNJ.out h
                  · exact he (by simpa using h))
                go_upto_region 14 with (fail)
                refine wp_region_G (fun w' => Ext wr w') [10] (by kernel_rfl) ?_
                have gS : Ext wr wr.drew := (Below.refl _ _).drew
                refine wpAnyG_take 0 (v := ?_) rfl (by kernel_rfl) (by kernel_rfl) (by kernel_rfl) (by kernel_rfl) (by rfl) (by kernel_rfl) (fun _ _ _ h => h) (by rfl) (fun w' hw' => ?_) gS ?_
                rotate_left
                focus (go_simp; (try with_reducible rfl); done)
                (try simp only [Act.put, List.getElem_toArray, List.getElem_cons_succ, List.getElem_cons_zero, List.setIfInBounds_toArray, List.set_cons_zero, List.set_cons_succ])
                refine wpAnyG_take 1 (v := ?_) rfl (by kernel_rfl) (by kernel_rfl) (by kernel_rfl) (by kernel_rfl) (by rfl) (by kernel_rfl) (fun _ _ _ h => h) (by rfl) (fun w' hw' => ?_) gS ?_
                rotate_left
                focus (go_simp; (try with_reducible rfl); done)
                (try simp only [Act.put, List.getElem_toArray, List.getElem_cons_succ, List.getElem_cons_zero, List.setIfInBounds_toArray, List.set_cons_zero, List.set_cons_succ])
                refine wpAnyG_take 2 (v := ?_) rfl (by kernel_rfl) (by kernel_rfl) (by kernel_rfl) (by kernel_rfl) (by rfl) (by kernel_rfl) (fun _ _ _ h => h) (by rfl) (fun w' hw' => ?_) gS ?_
                rotate_left
                focus (go_simp; (try with_reducible rfl); done)
                (try simp only [Act.put, List.getElem_toArray, List.getElem_cons_succ, List.getElem_cons_zero, List.setIfInBounds_toArray, List.set_cons_zero, List.set_cons_succ])
                refine wpAnyG_take 3 (v := ?_) rfl (by kernel_rfl) (by kernel_rfl) (by kernel_rfl) (by kernel_rfl) (by rfl) (by kernel_rfl) (fun _ _ _ h => h) (by rfl) (fun w' hw' => ?_) gS ?_
                rotate_left
                focus (go_simp; (try with_reducible rfl); done)
                (try simp only [Act.put, List.getElem_toArray, List.getElem_cons_succ, List.getElem_cons_zero, List.setIfInBounds_toArray, List.set_cons_zero, List.set_cons_succ])
                refine wpAnyG_take 4 (v := ?_) rfl (by kernel_rfl) (by kernel_rfl) (by kernel_rfl) (by kernel_rfl) (by rfl) (by kernel_rfl) (fun _ _ _ h => h) (by rfl) (fun w' hw' => ?_) gS ?_
                rotate_left
                focus (have hh := HS.out _ hw'; go_split_ands; go_simp; (try with_reducible rfl); done)
                (try simp only [Act.put, List.getElem_toArray, List.getElem_cons_succ, List.getElem_cons_zero, List.setIfInBounds_toArray, List.set_cons_zero, List.set_cons_succ])
                refine wpAnyG_take 5 (v := ?_) rfl (by kernel_rfl) (by kernel_rfl) (by kernel_rfl) (by kernel_rfl) (by rfl) (by kernel_rfl) (fun _ _ _ h => h) (by rfl) (fun w' hw' => ?_) gS ?_
                rotate_left
                focus (go_simp; (try with_reducible rfl); done)
                (try simp only [Act.put, List.getElem_toArray, List.getElem_cons_succ, List.getElem_cons_zero, List.setIfInBounds_toArray, List.set_cons_zero, List.set_cons_succ])
                refine wpAnyG_take 6 (v := ?_) rfl (by kernel_rfl) (by kernel_rfl) (by kernel_rfl) (by kernel_rfl) (by rfl) (by kernel_rfl) (fun _ _ _ h => h) (by rfl) (fun w' hw' => ?_) gS ?_
                rotate_left
                focus (go_simp; (try with_reducible rfl); done)
                (try simp only [Act.put, List.getElem_toArray, List.getElem_cons_succ, List.getElem_cons_zero, List.setIfInBounds_toArray, List.set_cons_zero, List.set_cons_succ])
                refine wpAnyG_take 7 (v := ?_) rfl (by kernel_rfl) (by kernel_rfl) (by kernel_rfl) (by kernel_rfl) (by rfl) (by kernel_rfl) (fun _ _ _ h => h) (by rfl) (fun w' hw' => ?_) gS ?_
                rotate_left
                focus (go_simp; (try with_reducible rfl); done)
                (try simp only [Act.put, List.getElem_toArray, List.getElem_cons_succ, List.getElem_cons_zero, List.setIfInBounds_toArray, List.set_cons_zero, List.set_cons_succ])
                refine wpAnyG_take 8 (v := ?_) rfl (by kernel_rfl) (by kernel_rfl) (by kernel_rfl) (by kernel_rfl) (by rfl) (by kernel_rfl) (fun _ _ _ h => h) (by rfl) (fun w' hw' => ?_) gS ?_
                rotate_left
                focus (go_simp; (try with_reducible rfl); done)
                (try simp only [Act.put, List.getElem_toArray, List.getElem_cons_succ, List.getElem_cons_zero, List.setIfInBounds_toArray, List.set_cons_zero, List.set_cons_succ])
                refine wpAnyG_take 9 (v := ?_) rfl (by kernel_rfl) (by kernel_rfl) (by kernel_rfl) (by kernel_rfl) (by rfl) (by kernel_rfl) (fun _ _ _ h => h) (by rfl) (fun w' hw' => ?_) gS ?_
                rotate_left
                focus (have hh := HS.out _ hw'; go_split_ands; go_simp; (try with_reducible rfl); done)
                (try simp only [Act.put, List.getElem_toArray, List.getElem_cons_succ, List.getElem_cons_zero, List.setIfInBounds_toArray, List.set_cons_zero, List.set_cons_succ])
                refine wpAnyG_one 10 (by kernel_rfl) rfl (by rfl) (fun K hK => ?_)
                (try simp only [List.getElem_toArray, List.getElem_cons_succ, List.getElem_cons_zero])
                go_simp
                refine hK.out _ _ (fun h => absurd h (by decide)) ?_
                clear hK K
                (try simp only [Act.put, List.getElem_toArray, List.getElem_cons_succ, List.getElem_cons_zero, List.setIfInBounds_toArray, List.set_cons_zero, List.set_cons_succ])
                refine wpAnyG_done (by kernel_rfl) ?_ _
                go_wp2
                go_roundw
                case rel => exact ⟨j + 1, by omega, by go_num, HNN, hX.drew⟩
                case measure => simp [intOf]; omega
            · obtain rfl : j = i := by omega
              have hjj : ¬ ((j : Int) < (j : Int)) := by omega
              have HNN := Lib.hid (show (ids (l.take (j + 1))).Nodup from by
                rw [ids_snoc HSK.out, nodup_snoc]
                exact ⟨HD.out, HNJ.out⟩)
              go_wp2
              go_roundw
              case rel => exact ⟨j + 1, by omega, by go_num, HNN, hX⟩
              case measure => simp [intOf]; omega
        · obtain rfl : i = k := by omega
          have hii : ¬ ((i : Int) < (i : Int)) := by omega
          obtain rfl : z = 0 := by
            have hD := HD.out
            rw [HN.out, List.take_length] at hD
            rcases HZ.out with ⟨_, _, h⟩ | ⟨_, h, _⟩ | ⟨h, _⟩
            · exact h
            · exact absurd hD h
            · exact absurd HAL.out h
          go_wp2
          go_ret
          exact ⟨rfl, hX⟩

end Go.Proofs.YtfnngchanhnaiaaDoor
