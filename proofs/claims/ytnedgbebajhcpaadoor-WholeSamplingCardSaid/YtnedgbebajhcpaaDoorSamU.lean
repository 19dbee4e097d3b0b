/- What a call leaves alone that writes two boxes of its caller's. No function is named here. sampling: plan, gain, Split. sampling: Split's closure, which calls itself; Split. sampling: Split's closure where it calls itself; Split. sampling: Split. sampling: Toulmin; the fixed calls. -/
import Derived.Test.YtnedgbebajhcpaaDoorOccAw
import Derived.Test.YtnedgbebajhcpaaDoorKeep
import Derived.Test.YtnedgbebajhcpaaDoorFrlS
import Derived.Test.YtnedgbebajhcpaaDoorSamA
import Derived.Test.YtnedgbebajhcpaaDoorHold
set_option linter.unusedVariables false
set_option linter.unusedSimpArgs false
set_option maxRecDepth 100000
namespace Go.Proofs.YtnedgbebajhcpaaDoor
open Go.RowKit Num

/-- But for the blocks X and Y, w' is as w was. -/
structure TExt (X Y : Nat) (w w' : World) : Prop where
  os : w'.os = w.os
  tape : w'.tape = w.tape
  output : w'.output = w.output
  size : w.heap.size ≤ w'.heap.size
  block : ∀ k, k < w.heap.size → k ≠ X → k ≠ Y → w'.heap[k]? = w.heap[k]?
section
variable {X Y : Nat} {w w' w'' : World}
theorem TExt.refl (X Y : Nat) (w : World) : TExt X Y w w := ⟨rfl, rfl, rfl, Nat.le_refl _, fun _ _ _ _ => rfl⟩
theorem TExt.trans (h : TExt X Y w w') (k : TExt X Y w' w'') : TExt X Y w w'' :=
  ⟨k.os.trans h.os, k.tape.trans h.tape, k.output.trans h.output, Nat.le_trans h.size k.size, fun i hi hx hy => (k.block i (Nat.lt_of_lt_of_le hi h.size) hx hy).trans (h.block i hi hx hy)⟩
theorem TExt.of_ext (h : Ext w w') : TExt X Y w w' := ⟨h.os, h.tape, h.output, h.size, fun k hk _ _ => h.block k hk⟩
theorem TExt.drew (h : TExt X Y w w') : TExt X Y w w'.drew := ⟨h.os, h.tape, h.output, h.size, h.block⟩
theorem TExt.set (h : TExt X Y w w') {p : Addr} (hp : p.block = X ∨ p.block = Y) (u : Value) : TExt X Y w (w'.setCell p u) :=
  h.trans ⟨rfl, rfl, rfl, by simp [World.setCell], fun k _ hx hy => Below.heap_setCell _ _ _ _ (by rcases hp with hp | hp <;> omega)⟩
theorem TExt.cell (h : TExt X Y w w') {p : Addr} (hp : p.block < w.heap.size) (hx : p.block ≠ X) (hy : p.block ≠ Y) : w'.cell? p = w.cell? p := World.cell?_of_block (w := w) (h.block p.block hp hx hy)
theorem TExt.frozen (h : TExt X Y w w') {p : Addr} (hp : p.block < w.heap.size) (hx : p.block ≠ X) (hy : p.block ≠ Y) : w'.frozen? p = w.frozen? p := World.frozen?_of_block (w := w) (h.block p.block hp hx hy)
/-- What lies below the two blocks is as it was. -/
theorem TExt.ext {w0 : World} (h0 : Ext w0 w) (h : TExt X Y w w') (hx : w0.heap.size ≤ X) (hy : w0.heap.size ≤ Y) : Ext w0 w' :=
  Below.trans h0 ⟨h.os, h.tape, h.output, h.size, fun k hk => h.block k (Nat.lt_of_lt_of_le hk h0.size) (by omega) (by omega)⟩
/-- A value's row is neither of the two blocks. -/
def Apart (X Y : Nat) (v : Value) : Prop := ∀ g, v.ownBlock = some g → g ≠ X ∧ g ≠ Y
theorem Apart.nil_ : Apart X Y (.slice none 0 0) := fun g h => by cases h
theorem Apart.below {v : Value} {B : Nat} (h : ∀ g, v.ownBlock = some g → g < B) (hx : B ≤ X) (hy : B ≤ Y) : Apart X Y v := fun g hg => by have := h g hg; omega
theorem Apart.above {v : Value} {B : Nat} (h : New B v) (hx : X < B) (hy : Y < B) : Apart X Y v := fun g hg => by have := h g hg; omega
theorem Reads.text {size n : Nat} {A : Option Addr} {xs : List Value} {c : Nat} (h : Reads w size A n xs) (ht : TExt X Y w w') (ha : Apart X Y (.slice A n c)) : Reads w' size A n xs :=
  ⟨h.1, fun hn => by
    obtain ⟨ad, e, hb, hc⟩ := h.2 hn
    subst e
    have hg := ha ad.block (by simp [Value.ownBlock])
    exact ⟨ad, rfl, Nat.lt_of_lt_of_le hb ht.size, fun j u hu => (ht.cell (by rw [block_of_add]; exact hb) (by rw [block_of_add]; exact hg.1) (by rw [block_of_add]; exact hg.2)).trans (hc j u hu)⟩⟩
theorem IntsV.text {v : Value} {zs : List Int} (h : IntsV w v zs) (ht : TExt X Y w w') (ha : Apart X Y v) : IntsV w' v zs := by
  obtain ⟨A, c, rfl, h2, h3, h4⟩ := h
  exact ⟨A, c, rfl, h2, h3, h4.text ht ha⟩
theorem CanV.text {v : Value} {n : Nat} (h : CanV w v n) (ht : TExt X Y w w') (ha : Apart X Y v) : CanV w' v n := by
  obtain ⟨A, c, rfl, h2, h3, h4⟩ := h
  exact ⟨A, c, rfl, h2, h3, h4.text ht ha⟩
theorem FracV.text {b : Bool} {s t : Value} {q : Rat} (h : FracV w b s t q) (ht : TExt X Y w w') (h1 : Apart X Y s) (h2 : Apart X Y t) : FracV w' b s t q := ⟨h.1, h.2.1.text ht h1, h.2.2.text ht h2⟩
end

/-- append to a slice that is full, at a step. -/
theorem wp_append_full {P : Program} {Q : Exit → Act → World → Prop} (w : World) {o : Oper} {a : Act} {K : Act → World → Prop} (s x : Operand) (t : TypeId)
    (hop : o.op = .call { callee := .builtin .append, args := #[s, x], argTypes := #[t, t] })
    (e : TypeId) (i : TypeInfo) (z : Value) (size bytes : Nat) (ht : P.underlying t = some (.slice e)) (hi : P.info? e = some i) (hz : i.zero = some z)
    (hsize : i.size = size) (hby : i.bytes = bytes) (hzs : z.cells.size = size) (hsz : 0 < size)
    (ao bo : Option Addr) (n m c : Nat) (olds news : List Value) (hs : a.eval s = .slice ao n n) (hx : a.eval x = .slice bo m c) (ho : Reads w size ao n olds) (hr : Reads w size bo m news) (h1 : ∀ u ∈ news, u.oneCell' = true)
    (h63 : n + m ≤ maxLen) (hbytes : (n + m) * bytes ≤ 140737488355328)
    (h : ∀ ao' cap' w', n + m ≤ cap' → cap' ≤ 9223372036854775807 → Reads w' size ao' (n + m) (olds ++ news) → Ext w w' → (∀ ad, ao' = some ad → ao = some ad ∨ w.heap.size ≤ ad.block) → K (a.put o.dst (.slice ao' (n + m) cap')) w') :
    Oper.wp P o a w K Q := by
  obtain ⟨ao', cap', w', hrun, k1, k2, k3, k4, k5⟩ := run_append_full (P := P) w t o.type e i z size bytes ht hi hz hsize hby hzs hsz ao bo n m c olds news ho hr h1 h63 hbytes
  unfold Oper.wp
  simp [execOp, hop, resolve, invoke, builtin, hs, hx, hrun, Result.andThen]
  exact h _ _ _ k1 k2 k3 k4 k5
def natsS (l : List Nat) : List Int := l.map (fun c : Nat => (c : Int))
theorem natsS_length (l : List Nat) : (natsS l).length = l.length := by simp [natsS]
theorem natsS_snoc (l : List Nat) (x : Nat) : natsS (l ++ [x]) = natsS l ++ [(x : Int)] := by simp [natsS]
theorem getD_natsS {l : List Nat} {k : Nat} (hk : k < l.length) : (natsS l).getD k 0 = ((at0 l k : Nat) : Int) := by
  unfold natsS at0
  rw [List.getD_eq_getElem?_getD, List.getD_eq_getElem?_getD, List.getElem?_map, List.getElem?_eq_getElem hk]
  rfl
/-- A plan: from 1 to 4 series of 1 to 60 dies. -/
def PlanN (D : List Nat) : Prop := (1 ≤ D.length ∧ D.length ≤ 4) ∧ ∀ d ∈ D, 1 ≤ d ∧ d ≤ 60
theorem at0_mem {l : List Nat} {i : Nat} (h : i < l.length) : at0 l i ∈ l := by
  unfold at0
  rw [List.getD_eq_getElem?_getD, List.getElem?_eq_getElem h]
  exact List.getElem_mem h
theorem gain_fb {D l : List Nat} {m : Nat} (hD : PlanN D) (hm : m ≤ D.length) (hlen : l.length = D.length) (hl : ∀ x ∈ l, x ≤ 30) : FB (gainQ (at0 D) (at0 l) m) 200 := by
  have h := sumQ_fb (f := fun i => meanQ (at0 l i) (at0 D i)) (L := 38) (n := m) fun k hk => meanQ_fb (hl _ (at0_mem (by omega))) (hD.2 _ (at0_mem (by omega))).1 (hD.2 _ (at0_mem (by omega))).2
  exact FB.mono h (by have := hD.1.2; omega)
theorem gl_fb {D l : List Nat} (hD : PlanN D) (hlen : l.length = D.length) (hl : ∀ x ∈ l, x ≤ 30) : FB (gl D l) 200 := gain_fb hD (Nat.le_refl _) hlen hl
theorem best_visit {D : List Nat} {m : Nat} : bestL D m = visit (gl D) (D.length - 1) [] m ([], -1) := by rw [visit_nil]; rfl
theorem split_awake : (bestL [1, 5] 3).1 = [1, 2] := bestL_awake

end Go.Proofs.YtnedgbebajhcpaaDoor
namespace Go.Proofs.YtnedgbebajhcpaaDoor
open Go.RowKit Num

theorem cell_spotS {w : World} {p : Addr} {u : Value} (h : w.cell? p = some u) : p.spot = none := by
  unfold World.cell? at h
  split at h
  · split at h
    · cases h
    · simp_all
  · cases h
theorem IntsV.plS {w : World} {A : Option Addr} {n c k : Nat} {zs : List Int} (h : IntsV w (.slice A n c) zs) (hk : k < zs.length) :
    ∃ b o, A = some ⟨b, o, none⟩ ∧ b < w.heap.size ∧ w.cell? ⟨b, o + k, none⟩ = some (.int .i64 (zs.getD k 0)) := by
  obtain ⟨ad, rfl, hb, hc⟩ := h.at_ hk
  obtain ⟨ad0, e0, _, hc0⟩ := h.at_ (k := 0) (by omega)
  injection e0 with e0
  subst e0
  rw [add_nought] at hc0
  obtain ⟨bb, o, sp⟩ := ad
  have hsp : sp = none := cell_spotS hc0
  subst hsp
  have ha : (⟨bb, o, none⟩ : Addr).add k = ⟨bb, o + k, none⟩ := by
    unfold Addr.add
    by_cases hj : k = 0 <;> simp [hj]
  rw [ha] at hc
  exact ⟨bb, o, rfl, hb, hc⟩
theorem getD_memS {us : List Int} {k : Nat} (hk : k < us.length) : us.getD k 0 ∈ us := by
  rw [List.getD_eq_getElem?_getD, List.getElem?_eq_getElem hk]
  exact List.getElem_mem hk
theorem clip_s {A : Option Addr} {n c : Nat} {w : World} (h1 : n ≤ c) (h2 : c ≤ 9223372036854775807) :
    Calls Tryd.prog 42 #[.slice A n c] w (fun e w' => e = .returned (.slice A n n) ∧ w' = w) := by
  go_enter Tryd.func42, Tryd.ntmps42
  go_wp2
  go_ret
  exact ⟨rfl, rfl⟩

/-- The numbers of dies of a plan are within their limits. -/
def PlanIn (us : List Int) : Prop := ∀ u ∈ us, 1 ≤ u ∧ u ≤ 60
abbrev planF : Value := .func (.func 68) #[] #[]
theorem splan1_f {u : Int} {w : World} (h1 : 1 ≤ u) (h2 : u ≤ 60) : Calls Tryd.prog 68 #[.int .i64 u] w (fun e w' => e = .returned (.bool false) ∧ w' = w) := by
  go_enter Tryd.func68, Tryd.ntmps68
  go_wp2_with (go_at_call 32; (with_reducible refine (swithin_t (n := u) (by omega) (by omega)).mono ?_); rintro e w1 ⟨rfl, rfl⟩)
  go_ret
  exact ⟨rfl, rfl⟩
theorem splan1_t {u : Int} {w : World} (h : u < 1 ∨ 60 < u) : Calls Tryd.prog 68 #[.int .i64 u] w (fun e w' => e = .returned (.bool true) ∧ w' = w) := by
  have H := Lib.hid h
  clear h
  go_enter Tryd.func68, Tryd.ntmps68
  go_wp2_with (go_at_call 32; (with_reducible refine (swithin_f (n := u) H.out).mono ?_); rintro e w1 ⟨rfl, rfl⟩)
  go_ret
  exact ⟨rfl, rfl⟩
theorem sindex_ok {us : List Int} {A : Option Addr} {c : Nat} {w : World} (hv : IntsV w (.slice A us.length c) us) (hu : PlanIn us) (hn : us.length ≤ 1000000) :
    Calls Tryd.prog 88 #[.slice A us.length c, planF] w (fun e w' => e = .returned (.int .i64 (-1)) ∧ w' = w) := by
  have HV := Lib.hid hv
  have HU := Lib.hid hu
  clear hv hu
  go_enter Tryd.func88, Tryd.ntmps88
  go_wp2
  go_loop [8] (fun iv => ∃ k : Nat, k ≤ us.length ∧ iv = .int .i64 k) (fun iv => us.length - (intOf iv).toNat)
  case atStart => exact ⟨0, Nat.zero_le _, rfl⟩
  case round =>
    obtain ⟨k, hk, rfl⟩ := hrel
    by_cases hkn : k < us.length
    · obtain ⟨b, o, rfl, hb, hc⟩ := HV.out.plS hkn
      obtain ⟨x, hx⟩ : ∃ x, x = us.getD k 0 := ⟨_, rfl⟩
      obtain ⟨h1, h2⟩ := HU.out _ (getD_memS hkn)
      rw [← hx] at hc h1 h2
      have hi1 : (0 : Int) ≤ (k : Int) := by omega
      have hi2 : (k : Int) < (us.length : Int) := by omega
      clear hx
      go_wp2_with (go_at_call 68; (with_reducible refine (splan1_f h1 h2).mono ?_); rintro _ s1 ⟨rfl, rfl⟩)
      go_round
      case rel => exact ⟨k + 1, by omega, by go_num⟩
      case measure => simp [intOf]; omega
    · go_wp2
      go_ret
      exact ⟨rfl, rfl⟩
def SomeIdxS (n : Nat) (w : World) (e : Ending) (w' : World) : Prop := ∃ k : Nat, k < n ∧ e = .returned (.int .i64 k) ∧ w' = w
theorem sindex_no {us : List Int} {A : Option Addr} {c : Nat} {w : World} (hv : IntsV w (.slice A us.length c) us) (hu : ¬ PlanIn us) (hn : us.length ≤ 1000000) :
    Calls Tryd.prog 88 #[.slice A us.length c, planF] w (SomeIdxS us.length w) := by
  have HV := Lib.hid hv
  have HU := Lib.hid hu
  clear hv hu
  go_enter Tryd.func88, Tryd.ntmps88
  go_wp2
  go_loop [8] (fun iv => ∃ k : Nat, (k ≤ us.length ∧ PlanIn (us.take k)) ∧ iv = .int .i64 k) (fun iv => us.length - (intOf iv).toNat)
  case atStart => exact ⟨0, ⟨Nat.zero_le _, by intro u hu; simp at hu⟩, rfl⟩
  case round =>
    obtain ⟨k, ⟨hk, hu⟩, rfl⟩ := hrel
    by_cases hkn : k < us.length
    · obtain ⟨b, o, rfl, hb, hc⟩ := HV.out.plS hkn
      have HT := Lib.hid hu
      obtain ⟨x, hx⟩ : ∃ x, x = us.getD k 0 := ⟨_, rfl⟩
      have HX := Lib.hid hx
      rw [← hx] at hc
      have hi1 : (0 : Int) ≤ (k : Int) := by omega
      have hi2 : (k : Int) < (us.length : Int) := by omega
      clear hx hu
      by_cases h1 : 1 ≤ x ∧ x ≤ 60
      · obtain ⟨h1, h2⟩ := h1
        go_wp2_with (go_at_call 68; (with_reducible refine (splan1_f h1 h2).mono ?_); rintro _ s1 ⟨rfl, rfl⟩)
        go_round
        case rel => exact ⟨k + 1, ⟨by omega, by
          intro u hu
          rw [List.take_add_one, List.mem_append] at hu
          rcases hu with hu | hu
          · exact HT.out u hu
          · rw [List.getElem?_eq_getElem hkn] at hu
            simp at hu
            subst hu
            rw [HX.out, List.getD_eq_getElem?_getD, List.getElem?_eq_getElem hkn] at h1 h2
            exact ⟨h1, h2⟩⟩, by go_num⟩
        case measure => simp [intOf]; omega
      · have h3 : x < 1 ∨ 60 < x := by omega
        clear h1
        have H3 := Lib.hid h3
        clear h3
        go_wp2_with (go_at_call 68; (with_reducible refine (splan1_t H3.out).mono ?_); rintro _ s1 ⟨rfl, rfl⟩)
        go_ret
        exact ⟨k, hkn, rfl, rfl⟩
    · exfalso
      rw [List.take_of_length_le (by omega)] at hu
      exact HU.out hu
theorem scontains_ok {us : List Int} {A : Option Addr} {c : Nat} {w : World} (hv : IntsV w (.slice A us.length c) us) (hu : PlanIn us) (hn : us.length ≤ 1000000) :
    Calls Tryd.prog 67 #[.slice A us.length c, planF] w (fun e w' => e = .returned (.bool false) ∧ w' = w) := by
  have H := Lib.hid (sindex_ok hv hu hn)
  clear hv hu
  go_enter Tryd.func67, Tryd.ntmps67
  go_wp2_with (go_at_call 88; (with_reducible refine H.out.mono ?_); rintro _ s1 ⟨rfl, rfl⟩)
  go_ret
  exact ⟨rfl, rfl⟩
theorem scontains_no {us : List Int} {A : Option Addr} {c : Nat} {w : World} (hv : IntsV w (.slice A us.length c) us) (hu : ¬ PlanIn us) (hn : us.length ≤ 1000000) :
    Calls Tryd.prog 67 #[.slice A us.length c, planF] w (fun e w' => e = .returned (.bool true) ∧ w' = w) := by
  have H := Lib.hid (sindex_no hv hu hn)
  clear hv hu
  go_enter Tryd.func67, Tryd.ntmps67
  go_wp2_with (go_at_call 88; (with_reducible refine H.out.mono ?_); rintro _ s1 ⟨k, hk, rfl, rfl⟩)
  go_ret
  exact ⟨by simp, rfl⟩
theorem splan_t {us : List Int} {A : Option Addr} {c : Nat} {w : World} (hv : IntsV w (.slice A us.length c) us) (hl : 1 ≤ us.length ∧ us.length ≤ 4) (hu : PlanIn us) :
    Calls Tryd.prog 40 #[.slice A us.length c] w (fun e w' => e = .returned (.bool true) ∧ w' = w) := by
  have HC := Lib.hid (scontains_ok hv hu (by omega))
  clear hv hu
  go_enter Tryd.func40, Tryd.ntmps40
  go_wp2_with (first
    | (go_at_call 32; (with_reducible refine (swithin_t (n := (us.length : Int)) (by omega) (by omega)).mono ?_); rintro e w1 ⟨rfl, rfl⟩)
    | (go_at_call 67; (with_reducible refine HC.out.mono ?_); rintro e w1 ⟨rfl, rfl⟩))
  go_ret
  exact ⟨rfl, rfl⟩
theorem splan_f {us : List Int} {A : Option Addr} {c : Nat} {w : World} (hv : IntsV w (.slice A us.length c) us) (hu : ¬ ((1 ≤ us.length ∧ us.length ≤ 4) ∧ PlanIn us)) :
    Calls Tryd.prog 40 #[.slice A us.length c] w (fun e w' => e = .returned (.bool false) ∧ w' = w) := by
  by_cases hl : 1 ≤ us.length ∧ us.length ≤ 4
  · have HC := Lib.hid (scontains_no hv (fun h => hu ⟨hl, h⟩) (by omega))
    clear hv hu
    go_enter Tryd.func40, Tryd.ntmps40
    go_wp2_with (first
      | (go_at_call 32; (with_reducible refine (swithin_t (n := (us.length : Int)) (by omega) (by omega)).mono ?_); rintro e w1 ⟨rfl, rfl⟩)
      | (go_at_call 67; (with_reducible refine HC.out.mono ?_); rintro e w1 ⟨rfl, rfl⟩))
    go_ret
    exact ⟨rfl, rfl⟩
  · have HL := Lib.hid (show (us.length : Int) < 1 ∨ 4 < (us.length : Int) from by omega)
    clear hv hu hl
    go_enter Tryd.func40, Tryd.ntmps40
    go_wp2_with (go_at_call 32; (with_reducible refine (swithin_f (n := (us.length : Int)) HL.out).mono ?_); rintro e w1 ⟨rfl, rfl⟩)
    go_ret
    exact ⟨rfl, rfl⟩

set_option maxHeartbeats 8000000 in
theorem sgain_ok {D l : List Nat} {A B : Option Addr} {c d : Nat} {w : World} (hD : PlanN D) (hlen : l.length = D.length) (hl : ∀ x ∈ l, x ≤ 30)
    (hv : IntsV w (.slice A (natsS D).length c) (natsS D)) (hy : IntsV w (.slice B (natsS l).length d) (natsS l)) (ht : Tab10 w) :
    Calls Tryd.prog 43 #[.slice A (natsS D).length c, .slice B (natsS l).length d] w (GivesF w (gl D l)) := by
  have HT := Lib.hid (fun (w' : World) (h : Ext w w') => ht.ext h)
  have HV := Lib.hid (fun (w' : World) (h : Ext w w') => hv.below h)
  have HY := Lib.hid (fun (w' : World) (h : Ext w w') => hy.below h)
  have HFB := Lib.hid (fun (m : Nat) (hm : m ≤ D.length) => gain_fb hD hm hlen hl)
  have HMB := Lib.hid (fun (i : Nat) (hi : i < D.length) => (⟨hl _ (at0_mem (by omega)), hD.2 _ (at0_mem hi)⟩ : at0 l i ≤ 30 ∧ 1 ≤ at0 D i ∧ at0 D i ≤ 60))
  have HN1 := Lib.hid (natsS_length D)
  have HN2 := Lib.hid (natsS_length l)
  have hd4 := hD.1
  have hnl : (natsS l).length = (natsS D).length := by rw [HN1.out, HN2.out, hlen]
  have HNL := Lib.hid hnl
  clear hv hy ht hD hl hnl
  go_enter Tryd.func43, Tryd.ntmps43
  go_upto_region 1 with (fail)
  have hF0 := FBox.new w (.bool false) (.slice none 0 0) (.slice none 0 0) 28
  have x0 : Ext w (w.alloc (.cells #[.bool false, .slice none 0 0, .slice none 0 0] 28)) := ext_alloc (Below.refl _ _) _
  have hs0 : w.heap.size + 1 ≤ (w.alloc (.cells #[.bool false, .slice none 0 0, .slice none 0 0] 28)).heap.size := by simp
  generalize w.alloc (.cells #[.bool false, .slice none 0 0, .slice none 0 0] 28) = W0 at *
  have HF := Lib.hid (fun (w' : World) (h : Ext W0 w') => hF0.below h)
  have HE := Lib.hid x0
  have f0 : Ext W0 W0 := Below.refl _ _
  obtain ⟨r0, r1, r2, g0, g1, g2⟩ := hF0
  clear x0
  go_wp2_with fail
  refine (fof_n (n := 0) (d := 1) (by omega) (by omega)).mono ?_
  rintro e w6 ⟨b6, A6, k6, c6, A6', k6', c6', rfl, h6, y6, n6, n6'⟩
  rw [zero_first] at h6
  have h6 : FracV w6 b6 (.slice A6 k6 c6) (.slice A6' k6' c6') (gainQ (at0 D) (at0 l) 0) := h6
  have hlo := y6.size
  go_upto_region 2 with (fail)
  have hG6 := FBox.new w6 (.bool b6) (.slice A6 k6 c6) (.slice A6' k6' c6') 28
  have Y6 : Ext W0 (w6.alloc (.cells #[.bool b6, .slice A6 k6 c6, .slice A6' k6' c6'] 28)) := ext_alloc y6 _
  have h6 := h6.below (ext_alloc (Below.refl _ _) (.cells #[.bool b6, .slice A6 k6 c6, .slice A6' k6' c6'] 28))
  have hsz6 : w6.heap.size < (w6.alloc (.cells #[.bool b6, .slice A6 k6 c6, .slice A6' k6' c6'] 28)).heap.size := by simp
  generalize w6.alloc (.cells #[.bool b6, .slice A6 k6 c6, .slice A6' k6' c6'] 28) = W6 at *
  generalize w6.heap.size = B6 at *
  go_wp2
  go_loopw [13] (fun iv wr => ∃ i : Nat, i ≤ D.length ∧ iv = .int .i64 i ∧ FIs W0 wr B6 (gainQ (at0 D) (at0 l) i)) (fun iv _ => D.length - (intOf iv).toNat)
  case atStart => exact ⟨0, Nat.zero_le _, rfl, b6, A6, k6, c6, A6', k6', c6', hG6, h6, Y6, n6, n6'⟩
  case round =>
    clear hG6 h6 Y6 n6 n6' hsz6 r0 r1 r2 g0 g1 g2
    obtain ⟨i, hi, rfl, cc, MA, mk, ml, MA', mk', ml', hM, vM, xM, nM, nM'⟩ := hrel
    have HM2 := Lib.hid (fun (w' : World) (h : Ext wr w') => hM.below h)
    have hMl := hM.lt
    have hX := xM
    by_cases hil : i < D.length
    · have HMA := Lib.hid (fun (w' : World) (h : Ext wr w') => FracV.any (vM.below h) (HFB.out i hi) (by omega))
      have HF1 := Lib.hid (HFB.out i hi)
      have hmb := HMB.out i hil
      obtain ⟨b1, o1, rfl, hb1, hc1⟩ := (HV.out _ (HE.out.trans xM)).plS (k := i) (by rw [HN1.out]; exact hil)
      obtain ⟨b2, o2, rfl, hb2, hc2⟩ := (HY.out _ (HE.out.trans xM)).plS (k := i) (by rw [HNL.out, HN1.out]; exact hil)
      rw [getD_natsS hil] at hc1
      rw [getD_natsS (by rw [hlen]; exact hil)] at hc2
      have HST := Lib.hid (show gainQ (at0 D) (at0 l) (i + 1) = gainQ (at0 D) (at0 l) i + meanQ (at0 l i) (at0 D i) from rfl)
      obtain ⟨S1, hS1⟩ : ∃ S1, S1 = gainQ (at0 D) (at0 l) i := ⟨_, rfl⟩
      obtain ⟨S2, hS2⟩ : ∃ S2, S2 = gainQ (at0 D) (at0 l) (i + 1) := ⟨_, rfl⟩
      obtain ⟨x, hx⟩ : ∃ x, x = at0 l i := ⟨_, rfl⟩
      obtain ⟨y, hy⟩ : ∃ y, y = at0 D i := ⟨_, rfl⟩
      rw [← hS1, ← hS2, ← hx, ← hy] at HST
      rw [← hS1] at HMA HF1
      rw [← hx] at hc2
      rw [← hy] at hc1
      rw [← hx, ← hy] at hmb
      have HS2 := Lib.hid hS2
      have HFM := Lib.hid (meanQ_fb (n := x) (D := y) hmb.1 hmb.2.1 hmb.2.2)
      have hi1 : (0 : Int) ≤ (i : Int) := by omega
      have hi2 : (i : Int) < ((natsS D).length : Int) := by rw [HN1.out]; omega
      have hi3 : (i : Int) < ((natsS l).length : Int) := by rw [HNL.out]; exact hi2
      have hw1 : IntKind.i64.wrap ((i : Int) + 1) = (i : Int) + 1 := wrap_in (by omega)
      clear hS1 hS2 hx hy vM hM
      go_wp2_with fail
      refine (omean_ok (n := x) (D := y) hmb.1 hmb.2.1 hmb.2.2 (HT.out _ (HE.out.trans xM))).mono ?_
      rintro e w1 ⟨b1, A1, k1, c1, A1', k1', c1', rfl, h1, y1, n1, n1'⟩
      clear n1 n1'
      go_upto_region 6 with (fail)
      have hG1 := FBox.new w1 (.bool b1) (.slice A1 k1 c1) (.slice A1' k1' c1') 28
      have Y1 : Ext wr (w1.alloc (.cells #[.bool b1, .slice A1 k1 c1, .slice A1' k1' c1'] 28)) := ext_alloc y1 _
      have h1 := h1.below (ext_alloc (Below.refl _ _) (.cells #[.bool b1, .slice A1 k1 c1, .slice A1' k1' c1'] 28))
      have hsz1 : w1.heap.size < (w1.alloc (.cells #[.bool b1, .slice A1 k1 c1, .slice A1' k1' c1'] 28)).heap.size := by simp
      generalize w1.alloc (.cells #[.bool b1, .slice A1 k1 c1, .slice A1' k1' c1'] 28) = W1 at *
      generalize w1.heap.size = B1 at *
      have HG1 := Lib.hid (fun (w' : World) (h : Ext W1 w') => hG1.below h)
      have HP1 := Lib.hid (fun (w' : World) (h : Ext W1 w') => FracV.any (h1.below h) (HFM.out) (by omega))
      have HB1 := Lib.hid (fun (w' : World) (h : Ext W1 w') => h1.below h)
      clear hG1 h1 y1 hsz1
      obtain ⟨m0, m1, m2, gm0, gm1, gm2⟩ := HM2.out _ Y1
      obtain ⟨p0, p1, p2, _, _, _⟩ := HG1.out _ (Below.refl _ _)
      have hsz := Y1.size
      go_wp2_with (go_at_call 24; (with_reducible refine (add_f (HMA.out _ Y1) (HP1.out _ (Below.refl _ _)) HF1.out HFM.out (by omega)).mono ?_); rintro _ s3 ⟨b3, A3, k3, c3, B3, l3, d3, rfl, h3, z3, n3, m3⟩; have f3 := Y1.trans z3; obtain ⟨m0, m1, m2, gm0, gm1, gm2⟩ := HM2.out _ f3)
      rw [← HST.out] at h3
      go_roundw
      all_goals first
        | exact ⟨i + 1, by omega, by go_num, b3, A3, k3, c3, B3, l3, d3, (HM2.out _ f3).put _ _ _, by rw [← HS2.out]; exact FracV.put h3 n3 m3 (by omega) _ _ _, ext_put (hX.trans f3) hlo _ _ _, n3.mono (by have := hX.size; omega), m3.mono (by have := hX.size; omega)⟩
        | (simp [intOf]; omega)
    · obtain rfl : i = D.length := by omega
      have hi2 : ¬ ((D.length : Int) < ((natsS D).length : Int)) := by rw [HN1.out]; omega
      obtain ⟨m0, m1, m2, gm0, gm1, gm2⟩ := hM
      obtain ⟨r0, r1, r2, g0, g1, g2⟩ := HF.out _ xM
      go_wp2
      obtain ⟨q0, q1, q2⟩ := set3 r0 r1 r2 (.bool cc) (.slice MA mk ml) (.slice MA' mk' ml')
      refine bodyPost_ret (v := .agg #[.bool cc, .slice MA mk ml, .slice MA' mk' ml']) (by simp [results, Tryd.results43, go_sem, q0, q1, q2]) rfl ?_
      exact GivesF.box (B := w.heap.size) (HE.out.trans xM) vM (nM.mono (by omega)) (nM'.mono (by omega)) (Nat.le_refl _)

end Go.Proofs.YtnedgbebajhcpaaDoor
namespace Go.Proofs.YtnedgbebajhcpaaDoor
open Go.RowKit Num

/-- The closure: it captures the plan, itself, the greatest gain, the best way. -/
abbrev tryF (Db Tb Y X : Nat) : Value := .func (.func 41) #[] #[.pointer (some ⟨Db, 0, none⟩), .pointer (some ⟨Tb, 0, none⟩), .pointer (some ⟨Y, 0, none⟩), .pointer (some ⟨X, 0, none⟩)]
/-- The boxes: X the best way, Y its gain. -/
def TryS (w0 : World) (Db Tb Y X : Nat) (vD : Value) (w : World) (bs : List Nat) (q : Rat) : Prop :=
  Ext w0 w ∧ w.cell? ⟨Db, 0, none⟩ = some vD ∧ w.cell? ⟨Tb, 0, none⟩ = some (tryF Db Tb Y X) ∧
  (∃ A c, w.cell? ⟨X, 0, none⟩ = some (.slice A (natsS bs).length c) ∧ w.frozen? ⟨X, 0, none⟩ = false ∧ IntsV w (.slice A (natsS bs).length c) (natsS bs) ∧ Apart X Y (.slice A (natsS bs).length c)) ∧
  (∃ b A k c A' k' c', FBox w Y (.bool b) (.slice A k c) (.slice A' k' c') ∧ FracV w b (.slice A k c) (.slice A' k' c') q ∧ Apart X Y (.slice A k c) ∧ Apart X Y (.slice A' k' c')) ∧ FB q 200
/-- Where the boxes lie. -/
structure TryG (w0 : World) (Db Tb Y X : Nat) : Prop where
  d : w0.heap.size ≤ Db
  t : w0.heap.size ≤ Tb
  y : w0.heap.size ≤ Y
  x : w0.heap.size ≤ X
  dx : Db ≠ X
  dy : Db ≠ Y
  tx : Tb ≠ X
  ty : Tb ≠ Y
  xy : X ≠ Y
section
variable {w0 : World} {Db Tb Y X : Nat} {vD : Value}
theorem TryS.ext {w w' : World} {bs : List Nat} {q : Rat} (h : TryS w0 Db Tb Y X vD w bs q) (hx : Ext w w') : TryS w0 Db Tb Y X vD w' bs q := by
  obtain ⟨h1, h2, h3, ⟨A, c, h4, h5, h6, h7⟩, ⟨b, B, k, d, B', k', d', h8, h9, h10, h11⟩, h12⟩ := h
  have l1 := World.block_lt_of_cell? _ _ h2
  have l2 := World.block_lt_of_cell? _ _ h3
  have l3 := World.block_lt_of_cell? _ _ h4
  exact ⟨h1.trans hx, (hx.cell l1).trans h2, (hx.cell l2).trans h3, ⟨A, c, (hx.cell l3).trans h4, (hx.frozen l3).trans h5, h6.below hx, h7⟩, ⟨b, B, k, d, B', k', d', h8.below hx, h9.below hx, h10, h11⟩, h12⟩
/-- A better way is stored. -/
theorem TryS.put {w : World} {bs l : List Nat} {q g : Rat} {B : Option Addr} {c : Nat} {b : Bool} {A A' : Option Addr} {k k' d d' : Nat} (G : TryG w0 Db Tb Y X) (h : TryS w0 Db Tb Y X vD w bs q)
    (hl : IntsV w (.slice B (natsS l).length c) (natsS l)) (al : Apart X Y (.slice B (natsS l).length c)) (hg : FracV w b (.slice A k d) (.slice A' k' d') g) (a1 : Apart X Y (.slice A k d)) (a2 : Apart X Y (.slice A' k' d')) (fg : FB g 200) :
    TryS w0 Db Tb Y X vD ((((w.setCell ⟨X, 0, none⟩ (.slice B (natsS l).length c)).setCell ⟨Y, 0, none⟩ (.bool b)).setCell ⟨Y, 1, none⟩ (.slice A k d)).setCell ⟨Y, 2, none⟩ (.slice A' k' d')) l g ∧
    TExt X Y w ((((w.setCell ⟨X, 0, none⟩ (.slice B (natsS l).length c)).setCell ⟨Y, 0, none⟩ (.bool b)).setCell ⟨Y, 1, none⟩ (.slice A k d)).setCell ⟨Y, 2, none⟩ (.slice A' k' d')) := by
  obtain ⟨h1, h2, h3, ⟨A0, c0, h4, h5, h6, h7⟩, ⟨b0, B0, k0, d0, B0', k0', d0', h8, h9, h10, h11⟩, h12⟩ := h
  have l1 : Db < w.heap.size := World.block_lt_of_cell? _ _ h2
  have l2 : Tb < w.heap.size := World.block_lt_of_cell? _ _ h3
  have T1 : TExt X Y w (w.setCell ⟨X, 0, none⟩ (.slice B (natsS l).length c)) := (TExt.refl X Y w).set (.inl rfl) _
  have T4 : TExt X Y w ((((w.setCell ⟨X, 0, none⟩ (.slice B (natsS l).length c)).setCell ⟨Y, 0, none⟩ (.bool b)).setCell ⟨Y, 1, none⟩ (.slice A k d)).setCell ⟨Y, 2, none⟩ (.slice A' k' d')) := ((T1.set (.inr rfl) _).set (.inr rfl) _).set (.inr rfl) _
  have hxy : ∀ i j : Nat, (⟨X, i, none⟩ : Addr) ≠ ⟨Y, j, none⟩ := fun i j e => by injection e with e1; exact G.xy e1
  have hF : FBox (w.setCell ⟨X, 0, none⟩ (.slice B (natsS l).length c)) Y (.bool b0) (.slice B0 k0 d0) (.slice B0' k0' d0') := by
    obtain ⟨f0, f1, f2, f3, f4, f5⟩ := h8
    exact ⟨by rw [World.cell?_setCell_other _ _ _ _ (hxy 0 0)]; exact f0, by rw [World.cell?_setCell_other _ _ _ _ (hxy 0 1)]; exact f1, by rw [World.cell?_setCell_other _ _ _ _ (hxy 0 2)]; exact f2,
      by rw [World.frozen?_setCell]; exact f3, by rw [World.frozen?_setCell]; exact f4, by rw [World.frozen?_setCell]; exact f5⟩
  refine ⟨⟨TExt.ext h1 T4 G.x G.y, (T4.cell (p := ⟨Db, 0, none⟩) l1 G.dx G.dy).trans h2, (T4.cell (p := ⟨Tb, 0, none⟩) l2 G.tx G.ty).trans h3,
    ⟨B, c, ?_, ?_, hl.text T4 al, al⟩, ⟨b, A, k, d, A', k', d', hF.put _ _ _, hg.text T4 a1 a2, a1, a2⟩, fg⟩, T4⟩
  · rw [World.cell?_setCell_other _ _ _ _ (hxy 0 2).symm, World.cell?_setCell_other _ _ _ _ (hxy 0 1).symm, World.cell?_setCell_other _ _ _ _ (hxy 0 0).symm]
    exact World.cell?_setCell_same _ _ _ h4
  · rw [World.frozen?_setCell, World.frozen?_setCell, World.frozen?_setCell, World.frozen?_setCell]
    exact h5
end
/-- What a call of the closure does. -/
def TryC (w0 : World) (Db Tb Y X : Nat) (vD : Value) (D : List Nat) (k : Nat) : Prop :=
  ∀ (pre : List Nat) (left : Nat) (w : World) (bs : List Nat) (q : Rat) (A : Option Addr) (c : Nat), pre.length + k + 1 = D.length → pre.sum + left ≤ 12 → IntsV w (.slice A (natsS pre).length c) (natsS pre) → Apart X Y (.slice A (natsS pre).length c) →
    TryS w0 Db Tb Y X vD w bs q →
    Calls Tryd.prog 41 #[.slice A (natsS pre).length c, .int .i64 left, .pointer (some ⟨Db, 0, none⟩), .pointer (some ⟨Tb, 0, none⟩), .pointer (some ⟨Y, 0, none⟩), .pointer (some ⟨X, 0, none⟩)] w
      (fun e w' => e = .returned (.tuple #[]) ∧ TryS w0 Db Tb Y X vD w' (visit (gl D) k pre left (bs, q)).1 (visit (gl D) k pre left (bs, q)).2 ∧ TExt X Y w w')

theorem cells_one1 (w : World) (z : Int) (t : TypeId) : Reads (w.alloc (.cells #[.int .i64 z] t)) 1 (some ⟨w.heap.size, 0, none⟩) 1 (i64l [z]) :=
  ⟨rfl, fun _ => ⟨_, rfl, by simp, fun j u hu => cell_one w (.int .i64 z) t j u hu⟩⟩
theorem mem_le_sum {l : List Nat} {x : Nat} (h : x ∈ l) : x ≤ l.sum := by
  induction l with
  | nil => cases h
  | cons a t ih =>
    rw [List.sum_cons]
    rcases List.mem_cons.1 h with rfl | h
    · omega
    · have := ih h; omega

set_option maxHeartbeats 8000000 in
/-- No further number is to be chosen: the way is tried. -/
theorem try_zero {w0 : World} {Db Tb Y X : Nat} {A0 : Option Addr} {c0 : Nat} {D : List Nat} (hD : PlanN D) (hvD : IntsV w0 (.slice A0 (natsS D).length c0) (natsS D)) (G : TryG w0 Db Tb Y X) (ht : Tab10 w0) :
    TryC w0 Db Tb Y X (.slice A0 (natsS D).length c0) D 0 := by
  intro pre left w bs q A c hlen hsum hI hA hS
  have HTAB := Lib.hid (fun (w' : World) (h : Ext w0 w') => ht.ext h)
  have HVD := Lib.hid (fun (w' : World) (h : Ext w0 w') => hvD.below h)
  have hxl : X < w.heap.size := by obtain ⟨_, _, _, ⟨A1, c1, h4, _⟩, _⟩ := hS; exact World.block_lt_of_cell? _ _ h4
  have hyl : Y < w.heap.size := by obtain ⟨_, _, _, _, ⟨b1, B1, k1, d1, B1', k1', d1', h8, _⟩, _⟩ := hS; exact h8.lt
  have HGL := Lib.hid (gl_fb (D := D) (l := pre ++ [left]) hD (by rw [List.length_append]; simp; omega) (fun x hx => by
    rcases List.mem_append.1 hx with h | h
    · have := mem_le_sum h; omega
    · have : x = left := by simpa using h
      omega))
  have HGA := Lib.hid (fun (A B : Option Addr) (c d : Nat) (w : World) (hv : IntsV w (.slice A (natsS D).length c) (natsS D)) (hy : IntsV w (.slice B (natsS (pre ++ [left])).length d) (natsS (pre ++ [left]))) (ht : Tab10 w) => sgain_ok (l := pre ++ [left]) hD (by rw [List.length_append]; simp; omega) (fun x hx => by
    rcases List.mem_append.1 hx with h | h
    · have := mem_le_sum h; omega
    · have : x = left := by simpa using h
      omega) hv hy ht)
  have HVZ := Lib.hid (visit_zero (g := gl D) (pre := pre) (left := left) (s := (bs, q)))
  have hd4 := hD.1
  have HDL := Lib.hid (natsS_length D)
  have HPL := Lib.hid (natsS_length pre)
  have hcap : (natsS pre).length ≤ c ∧ c ≤ 9223372036854775807 := by obtain ⟨_, _, e, h1, h2, _⟩ := hI; injection e with e1 e2 e3; subst e3; exact ⟨h1, h2⟩
  have hrd : Reads w 1 A (natsS pre).length (i64l (natsS pre)) := by obtain ⟨_, _, e, _, _, h3⟩ := hI; injection e with e1 e2 e3; subst e1; exact h3
  obtain ⟨i0, hi, hz0, hz1, hz2⟩ := info_parts info_int
  have HS := Lib.hid hS
  have HG := Lib.hid G
  obtain ⟨_, hcD, hcT, _, _, hfq⟩ := hS
  have hP : ((natsS pre).length : Int) = (pre.length : Int) := by rw [HPL.out]
  have hw1 : IntKind.i64.wrap (((natsS D).length : Int) - 1) = (pre.length : Int) := by rw [wrap_in (by rw [HDL.out]; omega), HDL.out]; omega
  have hno : decide (((natsS pre).length : Int) < (pre.length : Int)) = false := decide_eq_false (by omega)
  have hno2 : ¬ (((natsS pre).length : Int) < (pre.length : Int)) := by omega
  have HRD := Lib.hid hrd
  have HAP := Lib.hid hA
  have hnp : (natsS pre).length ≤ 4 := by rw [HPL.out]; omega
  clear hD hvD ht hI hrd hA hP G
  go_enter Tryd.func41, Tryd.ntmps41
  go_wp2_with fail
  refine (clip_s hcap.1 hcap.2).mono ?_
  rintro e w5 ⟨rfl, hw5⟩
  obtain rfl : w = w5 := hw5.symm
  go_wp2_with (at_builtin; refine wpList_append_full _ (by rfl) (.tmp 32) (.tmp 34) 36 (by rfl) 3 i0 (.int .i64 0) 1 8 Tryd.underlying36 hi hz0 hz1 hz2 rfl (by omega) A (some ⟨w.heap.size, 0, none⟩) (natsS pre).length 1 1 (i64l (natsS pre)) (i64l [(left : Int)]) (by rfl) (by rfl) (HRD.out.alloc _) (cells_one1 w _ _) (by simp [i64l, Value.oneCell']) (by unfold maxLen; omega) (by omega) ?_
               intro ao' cap' w8 g1 g2 g3 g4 g5
               have e8 : Ext w w8 := (ext_alloc (Below.refl _ _) _).trans g4
               obtain ⟨hE08, hcD, _, _, _, _⟩ := HS.out.ext e8)
  have hl2 : (natsS pre).length + 1 = (natsS (pre ++ [left])).length := by rw [natsS_snoc, List.length_append]; rfl
  rw [hl2]
  have hI8 : IntsV w8 (.slice ao' (natsS (pre ++ [left])).length cap') (natsS (pre ++ [left])) := ⟨ao', cap', rfl, by rw [← hl2]; exact g1, g2, by rw [← hl2, natsS_snoc, ← i64l_snoc]; exact g3⟩
  have hA8 : Apart X Y (.slice ao' (natsS (pre ++ [left])).length cap') := by
    intro g hg
    cases hao : ao' with
    | none => rw [hao] at hg; cases hg
    | some ad =>
      rw [hao] at hg
      have hgb : g = ad.block := by simp [Value.ownBlock] at hg; exact hg.symm
      rcases g5 ad hao with h | h
      · exact HAP.out g (by rw [h, hgb]; simp [Value.ownBlock])
      · have : w.heap.size + 1 ≤ ad.block := by simpa using h
        omega
  have HS8 := Lib.hid (HS.out.ext e8)
  have HI8 := Lib.hid hI8
  have HA8 := Lib.hid hA8
  clear g1 g2 g3 g5 hI8 hA8
  go_wp2_with fail
  refine (HGA.out _ _ _ _ _ (HVD.out _ hE08) HI8.out (HTAB.out _ hE08)).mono ?_
  rintro e w9 ⟨b9, A9, k9, c9, A9', k9', c9', rfl, h9, y9, n9, n9'⟩
  have hs8 := e8.size
  obtain ⟨g, hg⟩ : ∃ g, g = gl D (pre ++ [left]) := ⟨_, rfl⟩
  rw [← hg] at h9 HGL
  go_upto_region 7 with (fail)
  have hB9 := y9.size
  have hG9 := FBox.new w9 (.bool b9) (.slice A9 k9 c9) (.slice A9' k9' c9') 28
  have Y9 : Ext w8 (w9.alloc (.cells #[.bool b9, .slice A9 k9 c9, .slice A9' k9' c9'] 28)) := ext_alloc y9 _
  have h9 := h9.below (ext_alloc (Below.refl _ _) (.cells #[.bool b9, .slice A9 k9 c9, .slice A9' k9' c9'] 28))
  have hsz9 : w9.heap.size < (w9.alloc (.cells #[.bool b9, .slice A9 k9 c9, .slice A9' k9' c9'] 28)).heap.size := by simp
  generalize w9.alloc (.cells #[.bool b9, .slice A9 k9 c9, .slice A9' k9' c9'] 28) = W9 at *
  generalize w9.heap.size = B9 at *
  have HS9 := Lib.hid (HS8.out.ext Y9)
  have HI9 := Lib.hid (HI8.out.below Y9)
  have h9f := FracV.any h9 HGL.out (by omega)
  obtain ⟨_, _, _, ⟨A1, c1, hcX, hfX, _, _⟩, ⟨bq, Bq, kq, dq, Bq', kq', dq', ⟨y0, y1, y2, gy0, gy1, gy2⟩, hv9, _, _⟩, _⟩ := HS9.out
  have hqf := FracV.any hv9 hfq (by omega)
  have HA9 := Lib.hid h9f
  have HQ9 := Lib.hid hqf
  have HH9 := Lib.hid h9
  have HG9 := Lib.hid (fun (w' : World) (h : Ext W9 w') => hG9.below h)
  obtain ⟨p0, p1, p2, _, _, _⟩ := hG9
  obtain ⟨z, hz⟩ : ∃ z, cmpQ g q = z := ⟨_, rfl⟩
  have HZ := Lib.hid hz
  have HZP := Lib.hid (show 0 < z ↔ q < g from by rw [← hz]; exact cmpQ_pos g q)
  have HGG := Lib.hid hg
  have hN9 : New w8.heap.size (.slice A9 k9 c9) := n9
  have hN9' : New w8.heap.size (.slice A9' k9' c9') := n9'
  clear h9 h9f hv9 hqf hz hg
  by_cases hzz : 0 < z
  · have e1 : decide (0 < z) = true := decide_eq_true hzz
    have HBT := Lib.hid (show visit (gl D) 0 pre left (bs, q) = (pre ++ [left], g) from by
      rw [HVZ.out]
      unfold better
      rw [← HGG.out, if_pos (HZP.out.1 hzz)])
    go_upto_region 8 with (go_at_call 14; (with_reducible refine (cmp_e HA9.out HQ9.out (by omega) HZ.out).mono ?_); rintro _ s4 ⟨rfl, z4⟩)
    have HS4 := Lib.hid (HS9.out.ext z4)
    obtain ⟨_, _, _, ⟨A1', c1', hcX', hfX', _, _⟩, ⟨br, Br, kr, dr, Br', kr', dr', ⟨y0', y1', y2', gy0', gy1', gy2'⟩, _, _, _⟩, _⟩ := HS4.out
    obtain ⟨p0', p1', p2', _, _, _⟩ := HG9.out _ z4
    have hxy := HG.out.xy
    have hxb : X ≠ B9 := by omega
    have hyb : Y ≠ B9 := by omega
    clear p0 p1 p2 y0 y1 y2 gy0 gy1 gy2 hcX hfX
    go_region
    all_goals (try go_wp2)
    all_goals go_end0
    all_goals
      have h := TryS.put (w := s4) HG.out HS4.out (HI9.out.below z4) HA8.out (HH9.out.below z4) (Apart.above hN9 (by omega) (by omega)) (Apart.above hN9' (by omega) (by omega)) HGL.out
      rw [HBT.out]
      first
        | exact ⟨rfl, h.1.ext (Below.refl _ _).drew, (TExt.of_ext (e8.trans (Y9.trans z4))).trans h.2.drew⟩
        | exact ⟨rfl, h.1, (TExt.of_ext (e8.trans (Y9.trans z4))).trans h.2⟩
  · have e1 : decide (0 < z) = false := decide_eq_false hzz
    have HBT := Lib.hid (show visit (gl D) 0 pre left (bs, q) = (bs, q) from by
      rw [HVZ.out]
      unfold better
      rw [← HGG.out, if_neg (fun h => hzz (HZP.out.2 h))])
    go_wp2_with (go_at_call 14; (with_reducible refine (cmp_e HA9.out HQ9.out (by omega) HZ.out).mono ?_); rintro _ s4 ⟨rfl, z4⟩)
    go_end0
    rw [HBT.out]
    exact ⟨rfl, HS9.out.ext z4, TExt.of_ext (e8.trans (Y9.trans z4))⟩

end Go.Proofs.YtnedgbebajhcpaaDoor
namespace Go.Proofs.YtnedgbebajhcpaaDoor
open Go.RowKit Num

set_option maxHeartbeats 8000000 in
/-- A further number is chosen, from nothing to all that is left. -/
theorem try_succ {w0 : World} {Db Tb Y X : Nat} {A0 : Option Addr} {c0 : Nat} {D : List Nat} {k : Nat} (hD : PlanN D) (G : TryG w0 Db Tb Y X) (ih : TryC w0 Db Tb Y X (.slice A0 (natsS D).length c0) D k) :
    TryC w0 Db Tb Y X (.slice A0 (natsS D).length c0) D (k + 1) := by
  intro pre left w bs q A c hlen hsum hI hA hS
  have hxl : X < w.heap.size := by obtain ⟨_, _, _, ⟨A1, c1, h4, _⟩, _⟩ := hS; exact World.block_lt_of_cell? _ _ h4
  have hyl : Y < w.heap.size := by obtain ⟨_, _, _, _, ⟨b1, B1, k1, d1, B1', k1', d1', h8, _⟩, _⟩ := hS; exact h8.lt
  have HVS := Lib.hid (visit_succ (g := gl D) (k := k) (left := left) (pre := pre) (s := (bs, q)))
  have HDL := Lib.hid (natsS_length D)
  have HPL := Lib.hid (natsS_length pre)
  have hd4 := hD.1
  have hcap : (natsS pre).length ≤ c ∧ c ≤ 9223372036854775807 := by obtain ⟨_, _, e, h1, h2, _⟩ := hI; injection e with e1 e2 e3; subst e3; exact ⟨h1, h2⟩
  have HRD := Lib.hid (show Reads w 1 A (natsS pre).length (i64l (natsS pre)) from by obtain ⟨_, _, e, _, _, h3⟩ := hI; injection e with e1 e2 e3; subst e1; exact h3)
  obtain ⟨i0, hi, hz0, hz1, hz2⟩ := info_parts info_int
  have HS := Lib.hid hS
  obtain ⟨dm, hdm⟩ : ∃ dm : Nat, dm = D.length - 1 := ⟨_, rfl⟩
  have hw1 : IntKind.i64.wrap (((natsS D).length : Int) - 1) = (dm : Int) := by rw [wrap_in (by rw [HDL.out]; omega), HDL.out]; omega
  have hyes : decide (((natsS pre).length : Int) < (dm : Int)) = true := decide_eq_true (by rw [HPL.out]; omega)
  have hyes2 : ((natsS pre).length : Int) < (dm : Int) := by rw [HPL.out]; omega
  have HAP := Lib.hid hA
  have hnp : (natsS pre).length ≤ 4 := by rw [HPL.out]; omega
  obtain ⟨_, hcD, _, _, _, _⟩ := hS
  clear hI hA hdm
  obtain ⟨S, hSdef⟩ : ∃ S : Nat → List Nat × Rat, S = fun f => (List.range f).foldl (fun s j => visit (gl D) k (pre ++ [j]) (left - j) s) (bs, q) := ⟨_, rfl⟩
  have HSD := Lib.hid hSdef
  have HS0 := Lib.hid (show S 0 = (bs, q) from by rw [hSdef]; rfl)
  have HSS := Lib.hid (fun (f : Nat) => (show S (f + 1) = visit (gl D) k (pre ++ [f]) (left - f) (S f) from by rw [hSdef]; simp only [List.range_succ, List.foldl_append, List.foldl_cons, List.foldl_nil]))
  have HSE := Lib.hid (show S (left + 1) = visit (gl D) (k + 1) pre left (bs, q) from by rw [hSdef, HVS.out])
  clear hSdef
  go_enter Tryd.func41, Tryd.ntmps41
  go_wp2
  go_loopw [8] (fun iv wr => ∃ f : Nat, f ≤ left + 1 ∧ iv = .int .i64 f ∧ TryS w0 Db Tb Y X (.slice A0 (natsS D).length c0) wr (S f).1 (S f).2 ∧ TExt X Y w wr) (fun iv _ => left + 2 - (intOf iv).toNat)
  case atStart => exact ⟨0, Nat.zero_le _, rfl, by rw [HS0.out]; exact HS.out, TExt.refl _ _ _⟩
  case round =>
    clear hcD
    obtain ⟨f, hf, rfl, hTS, hT⟩ := hrel
    have HTS := Lib.hid hTS
    obtain ⟨_, hcD, hcT, _, _, _⟩ := hTS
    by_cases hfl : f ≤ left
    · have hb1 : (f : Int) ≤ (left : Int) := by omega
      have hw2 : IntKind.i64.wrap ((f : Int) + 1) = (f : Int) + 1 := wrap_in (by omega)
      have hw3 : IntKind.i64.wrap ((left : Int) - (f : Int)) = (left : Int) - (f : Int) := wrap_in (by omega)
      have hl2 : (natsS pre).length + 1 = (natsS (pre ++ [f])).length := by rw [natsS_snoc, List.length_append]; rfl
      have HSF := Lib.hid (show visit (gl D) k (pre ++ [f]) (left - f) ((S f).1, (S f).2) = S (f + 1) from (HSS.out f).symm)
      have HSF := Lib.hid HSF.out.symm
      have HRW := Lib.hid (HRD.out.text hT HAP.out)
      have hsz := hT.size
      have HSZ := Lib.hid hcT
      have HS' := Lib.hid (fun (w' : World) (h : Ext wr w') => ((h.cell (World.block_lt_of_cell? _ _ hcT)).trans hcT : w'.cell? ⟨Tb, 0, none⟩ = some (tryF Db Tb Y X)))
      have HS := HS'
      have hxr : X < wr.heap.size := by omega
      have hyr : Y < wr.heap.size := by omega
      clear hcD hcT
      go_upto_region 4 with (fail)
      refine wp_region_G (fun w' => Ext wr w') [9] (by kernel_rfl) ?_
      have gS : Ext wr wr.drew := (Below.refl _ _).drew
      refine wpAnyG_take 0 (v := ?_) rfl (by kernel_rfl) (by kernel_rfl) (by kernel_rfl) (by kernel_rfl) (by rfl) (by kernel_rfl) (fun _ _ _ h => h) (by rfl) (fun w' hw' => ?_) gS ?_
      rotate_left
      focus (have hh := HS.out _ hw'; go_split_ands; go_simp; (try with_reducible rfl); done)
      (try simp only [Act.put, List.getElem_toArray, List.getElem_cons_succ, List.getElem_cons_zero, List.setIfInBounds_toArray, List.set_cons_zero, List.set_cons_succ])
      refine wpAnyG_take 1 (v := ?_) rfl (by kernel_rfl) (by kernel_rfl) (by kernel_rfl) (by kernel_rfl) (by rfl) (by kernel_rfl) (fun _ _ _ h => h) (by rfl) (fun w' hw' => ?_) gS ?_
      rotate_left
      focus (go_simp; (try with_reducible rfl); done)
      (try simp only [Act.put, List.getElem_toArray, List.getElem_cons_succ, List.getElem_cons_zero, List.setIfInBounds_toArray, List.set_cons_zero, List.set_cons_succ])
      refine wpAnyG_take 3 (v := ?_) rfl (by kernel_rfl) (by kernel_rfl) (by kernel_rfl) (by kernel_rfl) (by rfl) (by kernel_rfl) (fun _ _ _ h => h) (by rfl) (fun w' hw' => ?_) gS ?_
      rotate_left
      focus (go_simp; (try with_reducible rfl); done)
      (try simp only [Act.put, List.getElem_toArray, List.getElem_cons_succ, List.getElem_cons_zero, List.setIfInBounds_toArray, List.set_cons_zero, List.set_cons_succ])
      refine wpAnyG_take 6 (v := ?_) rfl (by kernel_rfl) (by kernel_rfl) (by kernel_rfl) (by kernel_rfl) (by rfl) (by kernel_rfl) (fun _ _ _ h => h) (by rfl) (fun w' hw' => ?_) gS ?_
      rotate_left
      focus (go_simp; (try with_reducible rfl); done)
      (try simp only [Act.put, List.getElem_toArray, List.getElem_cons_succ, List.getElem_cons_zero, List.setIfInBounds_toArray, List.set_cons_zero, List.set_cons_succ])
      refine wpAnyG_take 7 (v := ?_) rfl (by kernel_rfl) (by kernel_rfl) (by kernel_rfl) (by kernel_rfl) (by rfl) (by kernel_rfl) (fun _ _ _ h => h) (by rfl) (fun w' hw' => ?_) gS ?_
      rotate_left
      focus (go_simp; (try with_reducible rfl); done)
      (try simp only [Act.put, List.getElem_toArray, List.getElem_cons_succ, List.getElem_cons_zero, List.setIfInBounds_toArray, List.set_cons_zero, List.set_cons_succ])
      refine wpAnyG_take 8 (v := ?_) rfl (by kernel_rfl) (by kernel_rfl) (by kernel_rfl) (by kernel_rfl) (by rfl) (by kernel_rfl) (fun _ _ _ h => h) (by rfl) (fun w' hw' => ?_) gS ?_
      rotate_left
      focus (go_simp; (try with_reducible rfl); done)
      (try simp only [Act.put, List.getElem_toArray, List.getElem_cons_succ, List.getElem_cons_zero, List.setIfInBounds_toArray, List.set_cons_zero, List.set_cons_succ])
      refine wpAnyG_two 2 4 (by kernel_rfl) rfl rfl (by rfl) (by rfl) (fun K hK => ?_) (fun K hK => ?_)
      · go_simp
        go_at_call 42
        refine (clip_s hcap.1 hcap.2).mono ?_
        rintro _ s1 ⟨rfl, rfl⟩
        (try go_wp2_with fail)
        refine hK.out _ _ (fun _ => gS) ?_
        clear hK K
        (try simp only [Act.put, List.getElem_toArray, List.getElem_cons_succ, List.getElem_cons_zero, List.setIfInBounds_toArray, List.set_cons_zero, List.set_cons_succ])
        refine wpAnyG_one 4 (by kernel_rfl) rfl (by rfl) (fun K hK => ?_)
        go_simp
        have gS := ext_alloc gS (.cells #[.int .i64 (f : Int)] 3)
        (try go_wp2_with fail)
        refine hK.out _ _ (fun _ => gS) ?_
        clear hK K
        (try simp only [Act.put, List.getElem_toArray, List.getElem_cons_succ, List.getElem_cons_zero, List.setIfInBounds_toArray, List.set_cons_zero, List.set_cons_succ])
        refine wpAnyG_one 5 (by kernel_rfl) rfl (by rfl) (fun K hK => ?_)
        refine wp_append_full _ (.tmp 23) (.tmp 25) 36 rfl 3 i0 (.int .i64 0) 1 8 Tryd.underlying36 hi hz0 hz1 hz2 rfl (by omega) A (some ⟨wr.heap.size, 0, none⟩) (natsS pre).length 1 1 (i64l (natsS pre)) (i64l [(f : Int)]) rfl rfl (HRW.out.alloc _) (cells_one1 _ _ _) (by simp [i64l, Value.oneCell']) (by unfold maxLen; omega) (by omega) ?_
        intro ao' cap' w8 g1 g2 g3 g4 g5
        have e8 : Ext wr w8 := Ext.trans (Below.drew (ext_alloc (Below.refl _ _) _)) g4
        have gS : Ext wr w8 := e8
        have hI8 : IntsV w8 (.slice ao' (natsS (pre ++ [f])).length cap') (natsS (pre ++ [f])) := ⟨ao', cap', rfl, by rw [← hl2]; exact g1, g2, by rw [← hl2, natsS_snoc, ← i64l_snoc]; exact g3⟩
        have hA8 : Apart X Y (.slice ao' (natsS (pre ++ [f])).length cap') := by
          intro g hg
          cases hao : ao' with
          | none => rw [hao] at hg; cases hg
          | some ad =>
            rw [hao] at hg
            have hgb : g = ad.block := by simp [Value.ownBlock] at hg; exact hg.symm
            rcases g5 ad hao with h | h
            · exact HAP.out g (by rw [h, hgb]; simp [Value.ownBlock])
            · have : wr.heap.size + 1 ≤ ad.block := by simpa using h
              omega
        have HIH := Lib.hid (ih (pre ++ [f]) (left - f) w8 _ _ ao' cap' (by rw [List.length_append]; simp; omega) (by rw [List.sum_append]; simp; omega) hI8 hA8 (HTS.out.ext e8))
        rw [show ((left - f : Nat) : Int) = (left : Int) - (f : Int) from by omega] at HIH
        clear g1 g2 g3 g5 hI8 hA8
        (try go_wp2_with fail)
        refine hK.out _ _ (fun _ => gS) ?_
        clear hK K
        (try simp only [Act.put, List.getElem_toArray, List.getElem_cons_succ, List.getElem_cons_zero, List.setIfInBounds_toArray, List.set_cons_zero, List.set_cons_succ])
        refine wpAnyG_one 9 (by kernel_rfl) rfl (by rfl) (fun K hK => ?_)
        (try simp only [List.getElem_toArray, List.getElem_cons_succ, List.getElem_cons_zero])
        go_simp
        go_at_call 41
        refine HIH.out.mono ?_
        rintro _ w9 ⟨rfl, hS9, hT9⟩
        refine hK.out _ _ (fun h => absurd h (by decide)) ?_
        clear hK K
        (try simp only [Act.put, List.getElem_toArray, List.getElem_cons_succ, List.getElem_cons_zero, List.setIfInBounds_toArray, List.set_cons_zero, List.set_cons_succ])
        refine wpAnyG_done (by kernel_rfl) ?_ _
        go_wp2
        go_roundw
        all_goals first
          | exact ⟨f + 1, by omega, by go_num, by rw [HSF.out]; exact hS9, (hT.trans (TExt.of_ext e8)).trans hT9⟩
          | (simp [intOf]; omega)
      · go_simp
        have gS := ext_alloc gS (.cells #[.int .i64 (f : Int)] 3)
        (try go_wp2_with fail)
        refine hK.out _ _ (fun _ => gS) ?_
        clear hK K
        (try simp only [Act.put, List.getElem_toArray, List.getElem_cons_succ, List.getElem_cons_zero, List.setIfInBounds_toArray, List.set_cons_zero, List.set_cons_succ])
        refine wpAnyG_one 2 (by kernel_rfl) rfl (by rfl) (fun K hK => ?_)
        go_simp
        go_at_call 42
        refine (clip_s hcap.1 hcap.2).mono ?_
        rintro _ s1 ⟨rfl, rfl⟩
        (try go_wp2_with fail)
        refine hK.out _ _ (fun _ => gS) ?_
        clear hK K
        (try simp only [Act.put, List.getElem_toArray, List.getElem_cons_succ, List.getElem_cons_zero, List.setIfInBounds_toArray, List.set_cons_zero, List.set_cons_succ])
        refine wpAnyG_one 5 (by kernel_rfl) rfl (by rfl) (fun K hK => ?_)
        refine wp_append_full _ (.tmp 23) (.tmp 25) 36 rfl 3 i0 (.int .i64 0) 1 8 Tryd.underlying36 hi hz0 hz1 hz2 rfl (by omega) A (some ⟨wr.heap.size, 0, none⟩) (natsS pre).length 1 1 (i64l (natsS pre)) (i64l [(f : Int)]) rfl rfl (HRW.out.alloc _) (cells_one1 _ _ _) (by simp [i64l, Value.oneCell']) (by unfold maxLen; omega) (by omega) ?_
        intro ao' cap' w8 g1 g2 g3 g4 g5
        have e8 : Ext wr w8 := Ext.trans (Below.drew (ext_alloc (Below.refl _ _) _)) g4
        have gS : Ext wr w8 := e8
        have hI8 : IntsV w8 (.slice ao' (natsS (pre ++ [f])).length cap') (natsS (pre ++ [f])) := ⟨ao', cap', rfl, by rw [← hl2]; exact g1, g2, by rw [← hl2, natsS_snoc, ← i64l_snoc]; exact g3⟩
        have hA8 : Apart X Y (.slice ao' (natsS (pre ++ [f])).length cap') := by
          intro g hg
          cases hao : ao' with
          | none => rw [hao] at hg; cases hg
          | some ad =>
            rw [hao] at hg
            have hgb : g = ad.block := by simp [Value.ownBlock] at hg; exact hg.symm
            rcases g5 ad hao with h | h
            · exact HAP.out g (by rw [h, hgb]; simp [Value.ownBlock])
            · have : wr.heap.size + 1 ≤ ad.block := by simpa using h
              omega
        have HIH := Lib.hid (ih (pre ++ [f]) (left - f) w8 _ _ ao' cap' (by rw [List.length_append]; simp; omega) (by rw [List.sum_append]; simp; omega) hI8 hA8 (HTS.out.ext e8))
        rw [show ((left - f : Nat) : Int) = (left : Int) - (f : Int) from by omega] at HIH
        clear g1 g2 g3 g5 hI8 hA8
        (try go_wp2_with fail)
        refine hK.out _ _ (fun _ => gS) ?_
        clear hK K
        (try simp only [Act.put, List.getElem_toArray, List.getElem_cons_succ, List.getElem_cons_zero, List.setIfInBounds_toArray, List.set_cons_zero, List.set_cons_succ])
        refine wpAnyG_one 9 (by kernel_rfl) rfl (by rfl) (fun K hK => ?_)
        (try simp only [List.getElem_toArray, List.getElem_cons_succ, List.getElem_cons_zero])
        go_simp
        go_at_call 41
        refine HIH.out.mono ?_
        rintro _ w9 ⟨rfl, hS9, hT9⟩
        refine hK.out _ _ (fun h => absurd h (by decide)) ?_
        clear hK K
        (try simp only [Act.put, List.getElem_toArray, List.getElem_cons_succ, List.getElem_cons_zero, List.setIfInBounds_toArray, List.set_cons_zero, List.set_cons_succ])
        refine wpAnyG_done (by kernel_rfl) ?_ _
        go_wp2
        go_roundw
        all_goals first
          | exact ⟨f + 1, by omega, by go_num, by rw [HSF.out]; exact hS9, (hT.trans (TExt.of_ext e8)).trans hT9⟩
          | (simp [intOf]; omega)
    · obtain rfl : f = left + 1 := by omega
      have hb1 : ¬ (((left + 1 : Nat) : Int) ≤ (left : Int)) := by omega
      have hb2 : ¬ ((left : Int) + 1 ≤ (left : Int)) := by omega
      go_wp2
      ((try simp only [Exit.inBlock, Exit.then]); refine bodyPost_ret (results_none rfl _ _ _) rfl ?_)
      exact ⟨rfl, by rw [← HSE.out]; exact HTS.out, hT⟩

theorem try_all {w0 : World} {Db Tb Y X : Nat} {A0 : Option Addr} {c0 : Nat} {D : List Nat} (hD : PlanN D) (hvD : IntsV w0 (.slice A0 (natsS D).length c0) (natsS D)) (G : TryG w0 Db Tb Y X) (ht : Tab10 w0) :
    ∀ k, TryC w0 Db Tb Y X (.slice A0 (natsS D).length c0) D k
  | 0 => try_zero hD hvD G ht
  | k + 1 => try_succ hD G (try_all hD hvD G ht k)

theorem planN_in {D : List Nat} (hD : PlanN D) : (1 ≤ (natsS D).length ∧ (natsS D).length ≤ 4) ∧ PlanIn (natsS D) := by
  refine ⟨by rw [natsS_length]; exact hD.1, fun u hu => ?_⟩
  obtain ⟨d, hd, rfl⟩ := List.mem_map.1 hu
  have := hD.2 d hd
  omega

end Go.Proofs.YtnedgbebajhcpaaDoor
namespace Go.Proofs.YtnedgbebajhcpaaDoor
open Go.RowKit Num

/-- A list of numbers, somewhere, and an error. -/
def GivesIL (w : World) (zs : List Int) (er : Int) (e : Ending) (w' : World) : Prop := ∃ A c, e = .returned (.tuple #[.slice A zs.length c, .int .i64 er]) ∧ IntsV w' (.slice A zs.length c) zs ∧ Ext w w'
theorem CanV.lt_one {w : World} {v : Value} (h : CanV w v 1) : ∀ g, v.ownBlock = some g → g < w.heap.size := by
  obtain ⟨A, cap, rfl, _, _, hr⟩ := h
  intro g hg
  have hp : 0 < (limbsOf 1).length := by rw [limbsOf_one (by omega) (by omega)]; simp
  obtain ⟨ad, e, hb, _⟩ := hr.2 hp
  subst e
  have : ad.block = g := by simpa [Value.ownBlock] using hg
  omega

set_option maxHeartbeats 8000000 in
theorem split_ok {D : List Nat} {m : Nat} {A : Option Addr} {c : Nat} {w : World} (hD : PlanN D) (hm : m ≤ 12) (hv : IntsV w (.slice A (natsS D).length c) (natsS D)) (ht : Tab10 w) :
    Calls Tryd.prog 16 #[.slice A (natsS D).length c, .int .i64 m] w (GivesIL w (natsS (bestL D m).1) 0) := by
  have HV := Lib.hid (fun (w' : World) (h : Ext w w') => hv.below h)
  have HPI := Lib.hid (planN_in hD)
  have HTRY := Lib.hid (fun (Db Tb Y X : Nat) (G : TryG w Db Tb Y X) => try_all hD hv G ht (D.length - 1))
  have HDL := Lib.hid hD.1
  have HBV := Lib.hid (best_visit (D := D) (m := m))
  have HD := Lib.hid hD
  have hmf : ∀ (fn : Fn) (first cap : Array Value) (w : World), (Instr.makeFunc fn first cap).run Tryd.prog w = .ok (.func fn first cap) w := fun _ _ _ _ => rfl
  have hst : ∀ (a : Addr) (f : Fn) (x y : Array Value) (w : World) (n : Mode), (store a (.func f x y) n).run Tryd.prog w = stored Tryd.prog w a (.func f x y) n := fun a f x y w n => run_store Tryd.prog w a _ n rfl
  clear hD hv ht
  go_enter Tryd.func16, Tryd.ntmps16
  go_upto_region 1 with (fail)
  have q0 : (w.alloc (.cells #[.slice A (natsS D).length c] 36)).cell? ⟨w.heap.size, 0, none⟩ = some (.slice A (natsS D).length c) := by simp [go_sem]
  have x0 : Ext w (w.alloc (.cells #[.slice A (natsS D).length c] 36)) := ext_alloc (Below.refl _ _) _
  have hs0 : w.heap.size + 1 = (w.alloc (.cells #[.slice A (natsS D).length c] 36)).heap.size := by simp
  generalize w.alloc (.cells #[.slice A (natsS D).length c] 36) = W0 at *
  have HQ0 := Lib.hid (fun (w' : World) (h : Ext W0 w') => (h.cell (p := ⟨w.heap.size, 0, none⟩) (World.block_lt_of_cell? _ _ q0)).trans q0)
  go_upto_region 5 with (first
    | (go_at_call 40; (with_reducible refine (splan_t (HV.out _ x0) HPI.out.1 HPI.out.2).mono ?_); rintro e w1 ⟨rfl, hw1⟩; obtain rfl : W0 = w1 := hw1.symm)
    | (go_at_call 32; (with_reducible refine (swithin_t (n := (m : Int)) (by omega) (by omega)).mono ?_); rintro e w1 ⟨rfl, hw1⟩; obtain rfl : W0 = w1 := hw1.symm))
  clear q0
  go_upto_region 6 with (fail)
  have q5 : (W0.alloc (.cells #[.slice none 0 0] 36)).cell? ⟨W0.heap.size, 0, none⟩ = some (.slice none 0 0) := by simp [go_sem]
  have g5 : (W0.alloc (.cells #[.slice none 0 0] 36)).frozen? ⟨W0.heap.size, 0, none⟩ = false := by simp [go_sem]
  have x5 : Ext W0 (W0.alloc (.cells #[.slice none 0 0] 36)) := ext_alloc (Below.refl _ _) _
  have hs5 : W0.heap.size + 1 = (W0.alloc (.cells #[.slice none 0 0] 36)).heap.size := by simp
  generalize W0.alloc (.cells #[.slice none 0 0] 36) = W5 at *
  have HQ5 := Lib.hid (fun (w' : World) (h : Ext W5 w') => (⟨(h.cell (p := ⟨W0.heap.size, 0, none⟩) (World.block_lt_of_cell? _ _ q5)).trans q5, (h.frozen (p := ⟨W0.heap.size, 0, none⟩) (World.block_lt_of_cell? _ _ q5)).trans g5⟩ : w'.cell? ⟨W0.heap.size, 0, none⟩ = some (.slice none 0 0) ∧ w'.frozen? ⟨W0.heap.size, 0, none⟩ = false))
  clear q5 g5
  go_wp2_with fail
  refine (fof_n (n := -1) (d := 1) (by omega) (by omega)).mono ?_
  rintro e w6 ⟨b6, A6, k6, c6, A6', k6', c6', rfl, h6, y6, n6, n6'⟩
  have h6 : FracV w6 b6 (.slice A6 k6 c6) (.slice A6' k6' c6') (-1) := by
    have e : ((-1 : Int) : Rat) / ((1 : Int) : Rat) = -1 := by decide +kernel
    rw [e] at h6
    exact h6
  have hy6 := y6.size
  have a6 : ∀ g, (Value.slice A6 k6 c6).ownBlock = some g → g < w6.heap.size := CanV.lt_one h6.2.1
  have a6' : ∀ g, (Value.slice A6' k6' c6').ownBlock = some g → g < w6.heap.size := CanV.lt_one h6.2.2
  go_upto_region 7 with (fail)
  have hG6 := FBox.new w6 (.bool b6) (.slice A6 k6 c6) (.slice A6' k6' c6') 28
  have Y6 : Ext W5 (w6.alloc (.cells #[.bool b6, .slice A6 k6 c6, .slice A6' k6' c6'] 28)) := ext_alloc y6 _
  have h6 := h6.below (ext_alloc (Below.refl _ _) (.cells #[.bool b6, .slice A6 k6 c6, .slice A6' k6' c6'] 28))
  have hsz6 : w6.heap.size < (w6.alloc (.cells #[.bool b6, .slice A6 k6 c6, .slice A6' k6' c6'] 28)).heap.size := by simp
  generalize w6.alloc (.cells #[.bool b6, .slice A6 k6 c6, .slice A6' k6' c6'] 28) = W6 at *
  generalize w6.heap.size = B6 at *
  go_upto_region 8 with (fail)
  have q8 : (W6.alloc (.cells #[.nilFunc] 63)).cell? ⟨W6.heap.size, 0, none⟩ = some .nilFunc := by simp [go_sem]
  have g8 : (W6.alloc (.cells #[.nilFunc] 63)).frozen? ⟨W6.heap.size, 0, none⟩ = false := by simp [go_sem]
  have x8 : Ext W6 (W6.alloc (.cells #[.nilFunc] 63)) := ext_alloc (Below.refl _ _) _
  generalize W6.alloc (.cells #[.nilFunc] 63) = W8 at *
  go_upto_region 9 with (fail)
  have q9 : (W8.setCell ⟨W6.heap.size, 0, none⟩ (tryF w.heap.size W6.heap.size B6 W0.heap.size)).cell? ⟨W6.heap.size, 0, none⟩ = some (tryF w.heap.size W6.heap.size B6 W0.heap.size) := World.cell?_setCell_same _ _ _ q8
  have x9 : Ext W6 (W8.setCell ⟨W6.heap.size, 0, none⟩ (tryF w.heap.size W6.heap.size B6 W0.heap.size)) := x8.setCell (p := ⟨W6.heap.size, 0, none⟩) (Nat.le_refl _) _
  clear q8 g8 x8
  generalize W8.setCell ⟨W6.heap.size, 0, none⟩ (tryF w.heap.size W6.heap.size B6 W0.heap.size) = W9 at *
  have hG : TryG w w.heap.size W6.heap.size B6 W0.heap.size := ⟨Nat.le_refl _, by omega, by omega, by omega, by omega, by omega, by omega, by omega, by omega⟩
  have hS9 : TryS w w.heap.size W6.heap.size B6 W0.heap.size (.slice A (natsS D).length c) W9 [] (-1) :=
    ⟨x0.trans (x5.trans (Y6.trans x9)), HQ0.out _ (x5.trans (Y6.trans x9)), q9, ⟨none, 0, (HQ5.out _ (Y6.trans x9)).1, (HQ5.out _ (Y6.trans x9)).2, IntsV.nil_ _, Apart.nil_⟩,
      ⟨b6, A6, k6, c6, A6', k6', c6', hG6.below x9, h6.below x9, fun g hg => by have := n6 g hg; have := a6 g hg; omega, fun g hg => by have := n6' g hg; have := a6' g hg; omega⟩, (show FB (-1 : Rat) 1 from ⟨len_small (by decide), len_small (by decide)⟩).mono (by omega)⟩
  have HC := Lib.hid (show Calls Tryd.prog 41 #[.slice none 0 0, .int .i64 m, .pointer (some ⟨w.heap.size, 0, none⟩), .pointer (some ⟨W6.heap.size, 0, none⟩), .pointer (some ⟨B6, 0, none⟩), .pointer (some ⟨W0.heap.size, 0, none⟩)] W9 (fun e w' => e = .returned (.tuple #[]) ∧ TryS w w.heap.size W6.heap.size B6 W0.heap.size (.slice A (natsS D).length c) w' (bestL D m).1 (bestL D m).2 ∧ TExt W0.heap.size B6 W9 w') from by
    have h := HTRY.out _ _ _ _ hG [] m W9 [] (-1) none 0 (by have := HDL.out; simp; omega) (by simpa using hm) (IntsV.nil_ _) Apart.nil_ hS9
    rw [← HBV.out] at h
    exact h)
  clear hG hS9 a6 a6' n6 n6' hG6 h6
  go_wp2_with fail
  refine HC.out.mono ?_
  rintro e w10 ⟨rfl, hS10, _⟩
  obtain ⟨hE10, _, _, ⟨AX, cX, hcX, _, hIX, _⟩, _, _⟩ := hS10
  go_wp2
  go_ret2
  exact ⟨AX, cX, rfl, hIX, hE10⟩

end Go.Proofs.YtnedgbebajhcpaaDoor
namespace Go.Proofs.YtnedgbebajhcpaaDoor
open Go.RowKit Num

theorem pw_succS (x : Rat) (k : Nat) : pw x (k + 1) = pw x k * x := rfl
def toulP (t : Nat) (i : Nat) : Rat := - pw (-(t : Rat)) i
def toulS (zs : List Int) (t : Nat) (i : Nat) : Rat := sumQ (toulF (fun i => ((zs.getD i 0 : Int) : Rat)) (t : Rat)) i
theorem toulP_zero (t : Nat) : toulP t 0 = ((-1 : Int) : Rat) / ((1 : Int) : Rat) := by
  have e : ((-1 : Int) : Rat) / ((1 : Int) : Rat) = -1 := by decide +kernel
  rw [e]; rfl
theorem toulP_succ (t i : Nat) : toulP t (i + 1) = toulP t i * (((-(t : Int) : Int) : Rat) / ((1 : Int) : Rat)) := by
  unfold toulP
  rw [pw_succS]
  have e1 : ((1 : Int) : Rat) = 1 := rfl
  rw [e1, Rat.intCast_neg, Rat.intCast_natCast]
  grind
theorem toulS_succ (zs : List Int) (t i : Nat) : toulS zs t (i + 1) = toulS zs t i + toulP t (i + 1) * (((zs.getD i 0 : Int) : Rat) / ((1 : Int) : Rat)) := by
  unfold toulS
  rw [sumQ_succ]
  have e1 : ((1 : Int) : Rat) = 1 := rfl
  unfold toulF toulP
  rw [e1]
  grind
theorem toulP_fb {t : Nat} (ht : t ≤ 8) : ∀ i, FB (toulP t i) (3 + 3 * i)
  | 0 => by rw [toulP_zero]; exact fb_i64 (by omega) (by omega)
  | i + 1 => by
    rw [toulP_succ]
    exact (FB.mul (toulP_fb ht i) (fb_i64 (n := -(t : Int)) (d := 1) (by omega) (by omega)) (by omega)).mono (by omega)
theorem toulS_fb {zs : List Int} {t : Nat} (ht : t ≤ 8) (hz : ∀ z ∈ zs, 0 ≤ z ∧ z ≤ 64) (hl : zs.length ≤ 64) : ∀ i, i ≤ zs.length → FB (toulS zs t i) (3 + 300 * i)
  | 0, _ => by
    show FB (0 : Rat) _
    exact fb_zero.mono (by omega)
  | i + 1, h => by
    rw [toulS_succ]
    have hm := hz _ (getD_memS (us := zs) (k := i) (by omega))
    exact (FB.add (toulS_fb ht hz hl i (by omega)) (FB.mul (toulP_fb ht (i + 1)) (fb_i64 (n := zs.getD i 0) (d := 1) (by omega) (by omega)) (by omega)) (by omega)).mono (by omega)

/-- What is read of a value lies in neither of the two blocks. -/
def ApartL (X Y : Nat) (v : Value) : Prop := ∀ ad n c, v = .slice (some ad) n c → 0 < n → ad.block ≠ X ∧ ad.block ≠ Y
theorem ApartL.new {X Y B : Nat} {v : Value} (h : New B v) (hx : X < B) (hy : Y < B) : ApartL X Y v := fun ad n c e _ => by
  subst e
  have := h ad.block (by simp [Value.ownBlock])
  omega
theorem CanV.low {w : World} {v : Value} {n X Y : Nat} (h : CanV w v n) (hx : w.heap.size ≤ X) (hy : w.heap.size ≤ Y) : ApartL X Y v := fun ad m c e hm => by
  obtain ⟨A, cap, rfl, _, _, hr⟩ := h
  injection e with e1 e2 e3
  subst e1 e2
  obtain ⟨ad', e', hb, _⟩ := hr.2 hm
  injection e' with e'
  subst e'
  omega
theorem CanV.textL {X Y : Nat} {w w' : World} {v : Value} {n : Nat} (h : CanV w v n) (ht : TExt X Y w w') (ha : ApartL X Y v) : CanV w' v n := by
  obtain ⟨A, c, rfl, h2, h3, h4⟩ := h
  refine ⟨A, c, rfl, h2, h3, h4.1, fun hn => ?_⟩
  obtain ⟨ad, e, hb, hc⟩ := h4.2 hn
  subst e
  have hg := ha ad _ _ rfl hn
  exact ⟨ad, rfl, Nat.lt_of_lt_of_le hb ht.size, fun j u hu => (ht.cell (by rw [block_of_add]; exact hb) (by rw [block_of_add]; exact hg.1) (by rw [block_of_add]; exact hg.2)).trans (hc j u hu)⟩
/-- One of two boxes that are written in a loop. -/
def FI2 (X Y : Nat) (W wr : World) (b : Nat) (q : Rat) : Prop := ∃ c A k l A' k' l', FBox wr b (.bool c) (.slice A k l) (.slice A' k' l') ∧ FracV wr c (.slice A k l) (.slice A' k' l') q ∧ (New W.heap.size (.slice A k l) ∧ New W.heap.size (.slice A' k' l')) ∧ ApartL X Y (.slice A k l) ∧ ApartL X Y (.slice A' k' l')
/-- The other box was written. -/
theorem FI2.other {X Y b b' : Nat} {W wr : World} {q : Rat} (h : FI2 X Y W wr b q) (hne : b' ≠ b) (hb' : b' = X ∨ b' = Y) (x y z : Value) : FI2 X Y W (((wr.setCell ⟨b', 0, none⟩ x).setCell ⟨b', 1, none⟩ y).setCell ⟨b', 2, none⟩ z) b q := by
  obtain ⟨c, A, k, l, A', k', l', h1, h2, h3, h4, h5⟩ := h
  have T : TExt X Y wr (((wr.setCell ⟨b', 0, none⟩ x).setCell ⟨b', 1, none⟩ y).setCell ⟨b', 2, none⟩ z) := (((TExt.refl X Y wr).set hb' _).set hb' _).set hb' _
  exact ⟨c, A, k, l, A', k', l', h1.away hne _ _ _, ⟨h2.1, h2.2.1.textL T h4, h2.2.2.textL T h5⟩, h3, h4, h5⟩
theorem FI2.ext {X Y b : Nat} {W wr w' : World} {q : Rat} (h : FI2 X Y W wr b q) (hx : Ext wr w') : FI2 X Y W w' b q := by
  obtain ⟨c, A, k, l, A', k', l', h1, h2, h3, h4, h5⟩ := h
  exact ⟨c, A, k, l, A', k', l', h1.below hx, h2.below hx, h3, h4, h5⟩
/-- The box itself was written. -/
theorem FI2.put {X Y b B : Nat} {W wr : World} {q q' : Rat} (h : FI2 X Y W wr b q) (hb : b = X ∨ b = Y) {c : Bool} {A A' : Option Addr} {k l k' l' : Nat} (hv : FracV wr c (.slice A k l) (.slice A' k' l') q') (n1 : New B (.slice A k l)) (n2 : New B (.slice A' k' l')) (hX : X < B) (hY : Y < B) (hW : W.heap.size ≤ B) :
    FI2 X Y W (((wr.setCell ⟨b, 0, none⟩ (.bool c)).setCell ⟨b, 1, none⟩ (.slice A k l)).setCell ⟨b, 2, none⟩ (.slice A' k' l')) b q' := by
  obtain ⟨c0, A0, k0, l0, A0', k0', l0', h1, _⟩ := h
  exact ⟨c, A, k, l, A', k', l', h1.put _ _ _, FracV.put hv n1 n2 (by omega) _ _ _, ⟨n1.mono hW, n2.mono hW⟩, ApartL.new n1 hX hY, ApartL.new n2 hX hY⟩

set_option maxHeartbeats 8000000 in
theorem stoul_ok {zs : List Int} {t : Nat} {A : Option Addr} {c : Nat} {w : World} (hv : IntsV w (.slice A zs.length c) zs) (hz : ∀ z ∈ zs, 0 ≤ z ∧ z ≤ 64) (hl : zs.length ≤ 64) (ht : t ≤ 8) :
    Calls Tryd.prog 19 #[.slice A zs.length c, .int .i64 t] w (GivesFE w (toulS zs t zs.length)) := by
  have HV := Lib.hid (fun (w' : World) (h : Ext w w') => hv.below h)
  have HZ := Lib.hid hz
  have HFP := Lib.hid (fun (i : Nat) => toulP_fb ht i)
  have HFS := Lib.hid (fun (i : Nat) (h : i ≤ zs.length) => toulS_fb ht hz hl i h)
  have hwt : IntKind.i64.wrap (-(t : Int)) = -(t : Int) := wrap_in (by omega)
  have e64 : decide ((64 : Int) < (zs.length : Int)) = false := decide_eq_false (by omega)
  clear hv hz
  go_enter Tryd.func19, Tryd.ntmps19
  go_upto_region 1 with (fail)
  have hF0 := FBox.new w (.bool false) (.slice none 0 0) (.slice none 0 0) 28
  have x0 : Ext w (w.alloc (.cells #[.bool false, .slice none 0 0, .slice none 0 0] 28)) := ext_alloc (Below.refl _ _) _
  have hs0 : w.heap.size + 1 ≤ (w.alloc (.cells #[.bool false, .slice none 0 0, .slice none 0 0] 28)).heap.size := by simp
  generalize w.alloc (.cells #[.bool false, .slice none 0 0, .slice none 0 0] 28) = W0 at *
  have HF := Lib.hid (fun (w' : World) (h : Ext W0 w') => hF0.below h)
  have HE := Lib.hid x0
  have f0 : Ext W0 W0 := Below.refl _ _
  obtain ⟨r0, r1, r2, g0, g1, g2⟩ := hF0
  clear x0
  go_wp2
  go_loop [18] (fun iv => ∃ k : Nat, k ≤ zs.length ∧ iv = .int .i64 k) (fun iv => zs.length - (intOf iv).toNat)
  case atStart => exact ⟨0, Nat.zero_le _, rfl⟩
  case round =>
    obtain ⟨k, hk, rfl⟩ := hrel
    by_cases hkn : k < zs.length
    · obtain ⟨b, o, rfl, hb, hc⟩ := (HV.out _ HE.out).plS hkn
      obtain ⟨x, hx⟩ : ∃ x, x = zs.getD k 0 := ⟨_, rfl⟩
      obtain ⟨h1, h2⟩ := HZ.out _ (getD_memS hkn)
      rw [← hx] at hc h1 h2
      have hi1 : (0 : Int) ≤ (k : Int) := by omega
      have hi2 : (k : Int) < (zs.length : Int) := by omega
      have hwk : IntKind.i64.wrap ((k : Int) + 1) = (k : Int) + 1 := wrap_in (by omega)
      clear hx
      go_wp2_with (go_at_call 32; (with_reducible refine (swithin_t (n := x) h1 h2).mono ?_); rintro _ s1 ⟨rfl, hs1⟩; obtain rfl : W0 = s1 := hs1.symm)
      go_round
      case rel => exact ⟨k + 1, by omega, by go_num⟩
      case measure => simp [intOf]; omega
    · obtain rfl : k = zs.length := by omega
      have hkk : ¬ ((zs.length : Int) < (zs.length : Int)) := by omega
      go_upto_region 11 with (go_at_call 32; (with_reducible refine (swithin_t (n := (t : Int)) (by omega) (by omega)).mono ?_); rintro _ s1 ⟨rfl, hs1⟩; obtain rfl : W0 = s1 := hs1.symm)
      clear r0 r1 r2 g0 g1 g2
      go_wp2_with fail
      refine (fof_n (n := 0) (d := 1) (by omega) (by omega)).mono ?_
      rintro e w6 ⟨b6, A6, k6, c6, A6', k6', c6', rfl, h6, y6, n6, n6'⟩
      go_wp2_with fail
      refine (fof_n (n := -1) (d := 1) (by omega) (by omega)).mono ?_
      rintro e w7 ⟨b7, A7, k7, c7, A7', k7', c7', rfl, h7, y7, n7, n7'⟩
      rw [zero_first] at h6
      rw [← toulP_zero t] at h7
      go_upto_region 12 with (fail)
      obtain ⟨X, hX⟩ : ∃ X, X = w7.heap.size := ⟨_, rfl⟩
      have bX := (FBox.new w7 (.bool b6) (.slice A6 k6 c6) (.slice A6' k6' c6') 28).below (ext_alloc (Below.refl _ _) (.cells #[.bool b7, .slice A7 k7 c7, .slice A7' k7' c7'] 28))
      have bY := FBox.new (w7.alloc (.cells #[.bool b6, .slice A6 k6 c6, .slice A6' k6' c6'] 28)) (.bool b7) (.slice A7 k7 c7) (.slice A7' k7' c7') 28
      rw [show (w7.alloc (.cells #[.bool b6, .slice A6 k6 c6, .slice A6' k6' c6'] 28)).heap.size = w7.heap.size + 1 from by simp] at bY
      have x9 : Ext w7 ((w7.alloc (.cells #[.bool b6, .slice A6 k6 c6, .slice A6' k6' c6'] 28)).alloc (.cells #[.bool b7, .slice A7 k7 c7, .slice A7' k7' c7'] 28)) := ext_alloc (ext_alloc (Below.refl _ _) _) _
      generalize (w7.alloc (.cells #[.bool b6, .slice A6 k6 c6, .slice A6' k6' c6'] 28)).alloc (.cells #[.bool b7, .slice A7 k7 c7, .slice A7' k7' c7'] 28) = W9 at *
      have hy6 := y6.size
      have hy7 := y7.size
      have hWX : W0.heap.size ≤ X := by omega
      have i6 : FI2 X (X + 1) W0 W9 X (toulS zs t 0) := ⟨b6, A6, k6, c6, A6', k6', c6', by rw [hX]; exact bX, h6.below (y7.trans x9), ⟨n6, n6'⟩, CanV.low h6.2.1 (by omega) (by omega), CanV.low h6.2.2 (by omega) (by omega)⟩
      have i7 : FI2 X (X + 1) W0 W9 (X + 1) (toulP t 0) := ⟨b7, A7, k7, c7, A7', k7', c7', by rw [hX]; exact bY, h7.below x9, ⟨n7.mono (by omega), n7'.mono (by omega)⟩, CanV.low h7.2.1 (by omega) (by omega), CanV.low h7.2.2 (by omega) (by omega)⟩
      have x0 : Ext W0 W9 := y6.trans (y7.trans x9)
      rw [← hX]
      clear bX bY h6 h7 n6 n6' n7 n7' y6 y7 x9 hX
      go_wp2
      go_loopw [35] (fun iv wr => ∃ i : Nat, i ≤ zs.length ∧ iv = .int .i64 i ∧ FI2 X (X + 1) W0 wr X (toulS zs t i) ∧ FI2 X (X + 1) W0 wr (X + 1) (toulP t i) ∧ Ext W0 wr) (fun iv _ => zs.length - (intOf iv).toNat)
      case atStart => exact ⟨0, Nat.zero_le _, rfl, i6, i7, x0⟩
      case round =>
        clear i6 i7 x0
        obtain ⟨i, hi, rfl, iS, iP, hx⟩ := hrel
        have HIS := Lib.hid (fun (w' : World) (h : Ext wr w') => iS.ext h)
        have HIP := Lib.hid (fun (w' : World) (h : Ext wr w') => iP.ext h)
        by_cases hil : i < zs.length
        · obtain ⟨b, o, rfl, hb, hc⟩ := (HV.out _ (HE.out.trans hx)).plS hil
          obtain ⟨x, hxx⟩ : ∃ x, x = zs.getD i 0 := ⟨_, rfl⟩
          obtain ⟨h1, h2⟩ := HZ.out _ (getD_memS hil)
          rw [← hxx] at hc h1 h2
          have HSU := Lib.hid (toulS_succ zs t i)
          have HPU := Lib.hid (toulP_succ t i)
          rw [← hxx] at HSU
          have HF1 := Lib.hid (HFP.out i)
          have HF2 := Lib.hid (HFP.out (i + 1))
          have HF3 := Lib.hid (HFS.out i hi)
          have HFT := Lib.hid (show FB (((-(t : Int) : Int) : Rat) / ((1 : Int) : Rat)) 3 from fb_i64 (by omega) (by omega))
          have HFX := Lib.hid (show FB ((x : Rat) / ((1 : Int) : Rat)) 3 from fb_i64 (by omega) (by omega))
          have hi1 : (0 : Int) ≤ (i : Int) := by omega
          have hi2 : (i : Int) < (zs.length : Int) := by omega
          have hwk : IntKind.i64.wrap ((i : Int) + 1) = (i : Int) + 1 := wrap_in (by omega)
          obtain ⟨cS, AS, kS, lS, AS', kS', lS', ⟨s0, s1', s2', gs0, gs1, gs2⟩, hvS, _, _, _⟩ := iS
          obtain ⟨cP, AP, kP, lP, AP', kP', lP', ⟨p0, p1, p2, gp0, gp1, gp2⟩, hvP, _, _, _⟩ := iP
          have hXl : X + 1 < wr.heap.size := World.block_lt_of_cell? _ _ p0
          have HPB := Lib.hid (fun (w' : World) (h : Ext wr w') => FBox.below (w := wr) (b := X + 1) (x := .bool cP) (y := .slice AP kP lP) (z := .slice AP' kP' lP') ⟨p0, p1, p2, gp0, gp1, gp2⟩ h)
          have HSB := Lib.hid (fun (w' : World) (h : Ext wr w') => FBox.below (w := wr) (b := X) (x := .bool cS) (y := .slice AS kS lS) (z := .slice AS' kS' lS') ⟨s0, s1', s2', gs0, gs1, gs2⟩ h)
          have HPV := Lib.hid (fun (w' : World) (h : Ext wr w') => FracV.any (hvP.below h) HF1.out (by omega))
          have HS := Lib.hid (fun (w' : World) (h : Ext wr w') => (⟨(HPB.out _ h).1, (HPB.out _ h).2.1, (HPB.out _ h).2.2.1⟩ : w'.cell? ⟨X + 1, 0, none⟩ = some (.bool cP) ∧ w'.cell? ⟨X + 1, 1, none⟩ = some (.slice AP kP lP) ∧ w'.cell? ⟨X + 1, 2, none⟩ = some (.slice AP' kP' lP')))
          clear hvP s0 s1' s2' gs0 gs1 gs2 p0 p1 p2 gp0 gp1 gp2 hxx
          go_upto_region 15 with (fail)
          refine wp_region_G (fun w' => Ext wr w') [5] (by kernel_rfl) ?_
          have gS : Ext wr wr.drew := (Below.refl _ _).drew
          refine wpAnyG_take 0 (v := ?_) rfl (by kernel_rfl) (by kernel_rfl) (by kernel_rfl) (by kernel_rfl) (by rfl) (by kernel_rfl) (fun _ _ _ h => h) (by rfl) (fun w' hw' => ?_) gS ?_
          rotate_left
          focus (have hh := HS.out _ hw'; go_split_ands; go_simp; (try with_reducible rfl); done)
          (try simp only [Act.put, List.getElem_toArray, List.getElem_cons_succ, List.getElem_cons_zero, List.setIfInBounds_toArray, List.set_cons_zero, List.set_cons_succ])
          refine wpAnyG_take 1 (v := ?_) rfl (by kernel_rfl) (by kernel_rfl) (by kernel_rfl) (by kernel_rfl) (by rfl) (by kernel_rfl) (fun _ _ _ h => h) (by rfl) (fun w' hw' => ?_) gS ?_
          rotate_left
          focus (go_simp; (try with_reducible rfl); done)
          (try simp only [Act.put, List.getElem_toArray, List.getElem_cons_succ, List.getElem_cons_zero, List.setIfInBounds_toArray, List.set_cons_zero, List.set_cons_succ])
          refine wpAnyG_take 2 (v := ?_) rfl (by kernel_rfl) (by kernel_rfl) (by kernel_rfl) (by kernel_rfl) (by rfl) (by kernel_rfl) (fun _ _ _ h => h) (by rfl) (fun w' hw' => ?_) gS ?_
          rotate_left
          focus (go_simp; (try with_reducible rfl); done)
          (try simp only [Act.put, List.getElem_toArray, List.getElem_cons_succ, List.getElem_cons_zero, List.setIfInBounds_toArray, List.set_cons_zero, List.set_cons_succ])
          refine wpAnyG_one 3 (by kernel_rfl) rfl (by rfl) (fun K hK => ?_)
          go_simp
          go_at_call 13
          refine (fof_n (n := -(t : Int)) (d := 1) (by omega) (by omega)).mono ?_
          rintro _ s1 ⟨b1, A1, k1, c1, B1, l1, d1, rfl, h1', z1, _⟩
          have gS : Ext wr s1 := Ext.trans gS z1
          (try go_wp2_with fail)
          refine hK.out _ _ (fun _ => gS) ?_
          clear hK K
          (try simp only [Act.put, List.getElem_toArray, List.getElem_cons_succ, List.getElem_cons_zero, List.setIfInBounds_toArray, List.set_cons_zero, List.set_cons_succ])
          refine wpAnyG_one 4 (by kernel_rfl) rfl (by rfl) (fun K hK => ?_)
          go_simp
          go_at_call 15
          refine (mul_f (HPV.out _ gS) (FracV.any h1' HFT.out (by omega)) (by omega)).mono ?_
          rw [← HPU.out]
          rintro _ s2 ⟨b2, A2, k2, c2, B2, l2, d2, rfl, h2', z2, n2, m2⟩
          have hg1 := gS.size
          have gS : Ext wr s2 := Ext.trans gS z2
          have f2 := gS
          obtain ⟨p0, p1, p2, gp0, gp1, gp2⟩ := HPB.out _ gS
          (try go_wp2_with fail)
          refine hK.out _ _ (fun _ => gS) ?_
          clear hK K
          (try simp only [Act.put, List.getElem_toArray, List.getElem_cons_succ, List.getElem_cons_zero, List.setIfInBounds_toArray, List.set_cons_zero, List.set_cons_succ])
          refine wpAnyG_one 5 (by kernel_rfl) rfl (by rfl) (fun K hK => ?_)
          go_simp
          refine hK.out _ _ (fun h => absurd h (by decide)) ?_
          clear hK K
          (try simp only [Act.put, List.getElem_toArray, List.getElem_cons_succ, List.getElem_cons_zero, List.setIfInBounds_toArray, List.set_cons_zero, List.set_cons_succ])
          refine wpAnyG_done (by kernel_rfl) ?_ _
          have jP := (HIP.out _ f2).put (.inr rfl) h2' n2 m2 (by omega) (by omega) (by have := hx.size; omega)
          have jS := (HIS.out _ f2).other (b' := X + 1) (by omega) (.inr rfl) (.bool b2) (.slice A2 k2 c2) (.slice B2 l2 d2)
          have jx := ext_put (b := X + 1) (hx.trans f2) (by omega) (.bool b2) (.slice A2 k2 c2) (.slice B2 l2 d2)
          have jc := FBox.away (b' := X + 1) (HSB.out _ f2) (by omega) (.bool b2) (.slice A2 k2 c2) (.slice B2 l2 d2)
          clear p0 p1 p2 gp0 gp1 gp2 h1' h2' n2 m2 gS f2 hg1
          generalize ((s2.setCell ⟨X + 1, 0, none⟩ (.bool b2)).setCell ⟨X + 1, 1, none⟩ (.slice A2 k2 c2)).setCell ⟨X + 1, 2, none⟩ (.slice B2 l2 d2) = WP at *
          have HJP := Lib.hid (fun (w' : World) (h : Ext WP w') => jP.ext h)
          have HJS := Lib.hid (fun (w' : World) (h : Ext WP w') => jS.ext h)
          obtain ⟨cQ, AQ, kQ, lQ, AQ', kQ', lQ', bQ, vQ, _, _, _⟩ := jP
          obtain ⟨cR, AR, kR, lR, AR', kR', lR', bR, vR, _, _, _⟩ := jS
          have hXp : X + 1 < WP.heap.size := bQ.lt
          have HQB := Lib.hid (fun (w' : World) (h : Ext WP w') => bQ.below h)
          have HRB := Lib.hid (fun (w' : World) (h : Ext WP w') => bR.below h)
          have HQV := Lib.hid (fun (w' : World) (h : Ext WP w') => FracV.any (vQ.below h) HF2.out (by omega))
          have HRV := Lib.hid (fun (w' : World) (h : Ext WP w') => FracV.any (vR.below h) HF3.out (by omega))
          have HFM := Lib.hid (FB.mul HF2.out HFX.out (by omega))
          have HS := Lib.hid (fun (w' : World) (h : Ext WP w') => (⟨⟨(HRB.out _ h).1, (HRB.out _ h).2.1, (HRB.out _ h).2.2.1⟩, (HQB.out _ h).1, (HQB.out _ h).2.1, (HQB.out _ h).2.2.1⟩ : (w'.cell? ⟨X, 0, none⟩ = some (.bool cR) ∧ w'.cell? ⟨X, 1, none⟩ = some (.slice AR kR lR) ∧ w'.cell? ⟨X, 2, none⟩ = some (.slice AR' kR' lR')) ∧ w'.cell? ⟨X + 1, 0, none⟩ = some (.bool cQ) ∧ w'.cell? ⟨X + 1, 1, none⟩ = some (.slice AQ kQ lQ) ∧ w'.cell? ⟨X + 1, 2, none⟩ = some (.slice AQ' kQ' lQ')))
          clear bQ vQ bR vR jc
          go_upto_region 16 with (fail)
          refine wp_region_G (fun w' => Ext WP w') [6] (by kernel_rfl) ?_
          have gS : Ext WP WP.drew := (Below.refl _ _).drew
          refine wpAnyG_take 0 (v := ?_) rfl (by kernel_rfl) (by kernel_rfl) (by kernel_rfl) (by kernel_rfl) (by rfl) (by kernel_rfl) (fun _ _ _ h => h) (by rfl) (fun w' hw' => ?_) gS ?_
          rotate_left
          focus (have hh := HS.out _ hw'; go_split_ands; go_simp; (try with_reducible rfl); done)
          (try simp only [Act.put, List.getElem_toArray, List.getElem_cons_succ, List.getElem_cons_zero, List.setIfInBounds_toArray, List.set_cons_zero, List.set_cons_succ])
          refine wpAnyG_take 1 (v := ?_) rfl (by kernel_rfl) (by kernel_rfl) (by kernel_rfl) (by kernel_rfl) (by rfl) (by kernel_rfl) (fun _ _ _ h => h) (by rfl) (fun w' hw' => ?_) gS ?_
          rotate_left
          focus (have hh := HS.out _ hw'; go_split_ands; go_simp; (try with_reducible rfl); done)
          (try simp only [Act.put, List.getElem_toArray, List.getElem_cons_succ, List.getElem_cons_zero, List.setIfInBounds_toArray, List.set_cons_zero, List.set_cons_succ])
          refine wpAnyG_take 2 (v := ?_) rfl (by kernel_rfl) (by kernel_rfl) (by kernel_rfl) (by kernel_rfl) (by rfl) (by kernel_rfl) (fun _ _ _ h => h) (by rfl) (fun w' hw' => ?_) gS ?_
          rotate_left
          focus (go_simp; (try with_reducible rfl); done)
          (try simp only [Act.put, List.getElem_toArray, List.getElem_cons_succ, List.getElem_cons_zero, List.setIfInBounds_toArray, List.set_cons_zero, List.set_cons_succ])
          refine wpAnyG_one 3 (by kernel_rfl) rfl (by rfl) (fun K hK => ?_)
          go_simp
          go_at_call 13
          refine (fof_n (n := x) (d := 1) (by omega) (by omega)).mono ?_
          rintro _ s3 ⟨b3, A3, k3, c3, B3, l3, d3, rfl, h3', z3, _⟩
          have gS : Ext WP s3 := Ext.trans gS z3
          (try go_wp2_with fail)
          refine hK.out _ _ (fun _ => gS) ?_
          clear hK K
          (try simp only [Act.put, List.getElem_toArray, List.getElem_cons_succ, List.getElem_cons_zero, List.setIfInBounds_toArray, List.set_cons_zero, List.set_cons_succ])
          refine wpAnyG_one 4 (by kernel_rfl) rfl (by rfl) (fun K hK => ?_)
          go_simp
          go_at_call 15
          refine (mul_f (HQV.out _ gS) (FracV.any h3' HFX.out (by omega)) (by omega)).mono ?_
          rintro _ s4 ⟨b4, A4, k4, c4, B4, l4, d4, rfl, h4', z4, _, _⟩
          have gS : Ext WP s4 := Ext.trans gS z4
          (try go_wp2_with fail)
          refine hK.out _ _ (fun _ => gS) ?_
          clear hK K
          (try simp only [Act.put, List.getElem_toArray, List.getElem_cons_succ, List.getElem_cons_zero, List.setIfInBounds_toArray, List.set_cons_zero, List.set_cons_succ])
          refine wpAnyG_one 5 (by kernel_rfl) rfl (by rfl) (fun K hK => ?_)
          go_simp
          go_at_call 24
          refine (add_f (HRV.out _ gS) (FracV.any h4' HFM.out (by omega)) HF3.out HFM.out (by omega)).mono ?_
          rw [← HSU.out]
          rintro _ s5 ⟨b5, A5, k5, c5, B5, l5, d5, rfl, h5', z5, n5, m5⟩
          have hg2 := gS.size
          have gS : Ext WP s5 := Ext.trans gS z5
          have f5 := gS
          obtain ⟨p0, p1, p2, gp0, gp1, gp2⟩ := HRB.out _ gS
          (try go_wp2_with fail)
          refine hK.out _ _ (fun _ => gS) ?_
          clear hK K
          (try simp only [Act.put, List.getElem_toArray, List.getElem_cons_succ, List.getElem_cons_zero, List.setIfInBounds_toArray, List.set_cons_zero, List.set_cons_succ])
          refine wpAnyG_one 6 (by kernel_rfl) rfl (by rfl) (fun K hK => ?_)
          go_simp
          refine hK.out _ _ (fun h => absurd h (by decide)) ?_
          clear hK K
          (try simp only [Act.put, List.getElem_toArray, List.getElem_cons_succ, List.getElem_cons_zero, List.setIfInBounds_toArray, List.set_cons_zero, List.set_cons_succ])
          refine wpAnyG_done (by kernel_rfl) ?_ _
          go_wp2
          go_roundw
          all_goals first
            | exact ⟨i + 1, by omega, by go_num, (HJS.out _ f5).put (.inl rfl) h5' n5 m5 (by omega) (by omega) (by have := jx.size; omega), (HJP.out _ f5).other (b' := X) (by omega) (.inl rfl) _ _ _, ext_put (jx.trans f5) hWX _ _ _⟩
            | (simp [intOf]; omega)
        · obtain rfl : i = zs.length := by omega
          obtain ⟨cS, AS, kS, lS, AS', kS', lS', ⟨s0, s1', s2', gs0, gs1, gs2⟩, hvS, ⟨nS, nS'⟩, _, _⟩ := iS
          obtain ⟨r0, r1, r2, g0, g1, g2⟩ := HF.out _ hx
          go_wp2
          obtain ⟨q0, q1, q2⟩ := set3 r0 r1 r2 (.bool cS) (.slice AS kS lS) (.slice AS' kS' lS')
          refine bodyPost_ret (v := .tuple #[.agg #[.bool cS, .slice AS kS lS, .slice AS' kS' lS'], .int .i64 0]) (by simp [results, Tryd.results19, go_sem, q0, q1, q2]) rfl ?_
          exact GivesFE.box (B := w.heap.size) (HE.out.trans hx) hvS (nS.mono (by omega)) (nS'.mono (by omega)) (Nat.le_refl _)

end Go.Proofs.YtnedgbebajhcpaaDoor
