/- estimator.Of. -/
import Derived.Test.YtfnngchanhnaiaaDoorECheck
import Derived.Test.YtfnngchanhnaiaaDoorOwnI
import Derived.Test.YtfnngchanhnaiaaDoorShelf
set_option linter.unusedVariables false
set_option linter.unusedSimpArgs false
set_option maxRecDepth 100000
namespace Go.Proofs.YtfnngchanhnaiaaDoor
open Go.RowKit Num Go.Shelf Go.Sort

theorem eof_err {n c : Nat} {A : Option Addr} {side z : Int} {w : World} (hz : z ≠ 0) (hC : Calls Tryd.prog 14 #[.slice A n c] w (fun e w' => e = .returned (.int .i64 z) ∧ Ext w w')) :
    Calls Tryd.prog 6 #[.slice A n c, .int .i64 side] w (GivesI w [] z) := by
  have HC := Lib.hid hC
  have h1 : (z == 0) = false := by rw [beq_eq_false_iff_ne]; exact hz
  clear hC
  go_enter Tryd.func6, Tryd.ntmps6
  go_wp2_with (go_at_call 14; (with_reducible refine HC.out.mono ?_); rintro _ s1 ⟨rfl, z1⟩)
  go_ret2
  exact GivesI.none_ z1
theorem eof_side {n c : Nat} {A : Option Addr} {side : Int} {w : World} (hs : side ≠ 0 ∧ side ≠ 1) (hC : Calls Tryd.prog 14 #[.slice A n c] w (fun e w' => e = .returned (.int .i64 0) ∧ Ext w w')) :
    Calls Tryd.prog 6 #[.slice A n c, .int .i64 side] w (GivesI w [] 2) := by
  have HC := Lib.hid hC
  obtain ⟨s0, s1⟩ := hs
  have h0 : (side == 0) = false := by rw [beq_eq_false_iff_ne]; exact s0
  have h1 : (side == 1) = false := by rw [beq_eq_false_iff_ne]; exact s1
  have h2 : (side != 0) = true := by rw [bne_iff_ne]; exact s0
  have h3 : (side != 1) = true := by rw [bne_iff_ne]; exact s1
  clear hC
  go_enter Tryd.func6, Tryd.ntmps6
  go_wp2_with (go_at_call 14; (with_reducible refine HC.out.mono ?_); rintro _ s1 ⟨rfl, z1⟩)
  go_ret2
  exact GivesI.none_ z1
theorem eof_none {c : Nat} {A : Option Addr} {side : Int} {w : World} (hs : side = 0 ∨ side = 1) (hC : Calls Tryd.prog 14 #[.slice A 0 c] w (fun e w' => e = .returned (.int .i64 0) ∧ Ext w w')) :
    Calls Tryd.prog 6 #[.slice A 0 c, .int .i64 side] w (GivesI w [] 7) := by
  have HC := Lib.hid hC
  clear hC
  rcases hs with rfl | rfl
  · go_enter Tryd.func6, Tryd.ntmps6
    go_wp2_with (go_at_call 14; (with_reducible refine HC.out.mono ?_); rintro _ s1 ⟨rfl, z1⟩)
    go_ret2
    exact GivesI.none_ z1
  · go_enter Tryd.func6, Tryd.ntmps6
    go_wp2_with (go_at_call 14; (with_reducible refine HC.out.mono ?_); rintro _ s1 ⟨rfl, z1⟩)
    go_ret2
    exact GivesI.none_ z1

/-- The row of counts. -/
def cntRow (ds : List Int) : List Int := (List.range 1000).map (cntD ds)
theorem cntRow_length (ds : List Int) : (cntRow ds).length = 1000 := by simp [cntRow]
theorem cntRow_at {ds : List Int} {k : Nat} (h : k < 1000) : (cntRow ds).getD k 0 = cntD ds k := by
  unfold cntRow
  rw [List.getD_eq_getElem?_getD, List.getElem?_map, List.getElem?_range h]
  rfl
theorem cntRow_nil : cntRow [] = List.replicate 1000 0 := by
  apply List.ext_getElem?
  intro j
  by_cases h : j < 1000
  · unfold cntRow
    rw [List.getElem?_map, List.getElem?_range h, List.getElem?_replicate, if_pos h]
    rfl
  · rw [List.getElem?_eq_none (by rw [cntRow_length]; omega), List.getElem?_eq_none (by simp; omega)]
theorem cntRow_snoc {ds : List Int} {d : Nat} (h : d < 1000) : (cntRow ds).set d (cntD ds d + 1) = cntRow (ds ++ [(d : Int)]) := by
  apply List.ext_getElem?
  intro j
  rw [List.getElem?_set]
  by_cases hj : j < 1000
  · have e : ∀ xs : List Int, (cntRow xs)[j]? = some (cntD xs j) := fun xs => by
      unfold cntRow
      rw [List.getElem?_map, List.getElem?_range hj]
      rfl
    rw [e, e, cntRow_length]
    have hc : cntD (ds ++ [(d : Int)]) j = cntD ds j + if d = j then 1 else 0 := by
      unfold cntD
      rw [List.count_append, List.count_singleton]
      by_cases hd : d = j
      · subst hd; simp
      · have : ((d : Int) == (j : Int)) = false := by rw [beq_eq_false_iff_ne]; omega
        rw [this, if_neg hd]; simp
    by_cases hd : d = j
    · rw [if_pos hd, if_pos h, hc, if_pos hd, hd]
    · rw [if_neg hd, hc, if_neg hd, Int.add_zero]
  · rw [List.getElem?_eq_none (l := cntRow (ds ++ [(d : Int)])) (by rw [cntRow_length]; omega), List.getElem?_eq_none (l := cntRow ds) (by rw [cntRow_length]; omega), if_neg (by omega)]
theorem cntRow_filter (ds : List Int) : ((cntRow ds).toArray.toList.filter fun x => !decide (x = 0)) = ofN ds 1000 := rfl
theorem cntD_le (ds : List Int) (n : Nat) : cntD ds n ≤ ds.length := by
  unfold cntD
  have := List.count_le_length (a := (n : Int)) (l := ds)
  omega
theorem dies_snoc {side : Int} {l : List Sp} {k : Nat} {s : Sp} (h : l[k]? = some s) : dies side (l.take (k + 1)) = dies side (l.take k) ++ [dieOf side s] := by
  unfold dies
  rw [List.take_add_one, h, List.map_append]
  rfl
theorem dies_length (side : Int) (l : List Sp) : (dies side l).length = l.length := by simp [dies]

/-- The closure of Of. -/
theorem eof_zero (x : Int) (W : World) : FnGives Tryd.prog 16 #[] #[.int .i64 x] (.bool (decide (x = 0))) W := by
  show Calls Tryd.prog 16 #[.int .i64 x] W _
  go_enter Tryd.func16, Tryd.ntmps16
  go_wp2
  all_goals (go_ret; exact ⟨by by_cases hx : x = 0 <;> simp [hx], 0, rfl⟩)
theorem putRow_grown {w : World} {g n : Nat} (d : Array Int) : w.grownBy (putRow (Value.int .i64) (Sort.ahead w n) g 0 d) (some g) := by
  refine ⟨rfl, rfl, rfl, by simp, fun k hk hne => ?_⟩
  have : g ≠ k := fun e => hne (by rw [e])
  simp [putRow, mapBlock, Sort.ahead, Array.getElem?_modify, this]
theorem del_zeros {g : Nat} {ds : List Int} {w : World} (h : OwnI 0 w g 1000 (cntRow ds)) :
    Calls Tryd.prog 15 #[.slice (some ⟨g, 0, none⟩) 1000 1000, .func (.func 16) #[] #[]] w (fun e w' => e = .returned (.slice (some ⟨g, 0, none⟩) (ofN ds 1000).length 1000) ∧ IntsV w' (.slice (some ⟨g, 0, none⟩) (ofN ds 1000).length 1000) (ofN ds 1000) ∧ w.grownBy w' (some g)) := by
  have eg : ∀ args w, (callFunc 16 args).run Tryd.prog w = .ok (.enter 16 args) w := enters_of Tryd.func16 (by kernel_rfl) rfl
  have hsz : (cntRow ds).toArray.size = 1000 := by rw [List.size_toArray, cntRow_length]
  have hH : Holds (Value.int .i64) w g 0 (cntRow ds).toArray := fun j hj => by
    rw [hsz] at hj
    have h1 := h.at_ (cntRow_length ds) hj
    rw [Nat.zero_add]
    refine ⟨h1.1.trans ?_, h1.2⟩
    congr 2
    rw [cntRow_at hj, getElem!_pos _ _ (by rw [hsz]; exact hj)]
    simp [cntRow]
  have hlen : (ofN ds 1000).length ≤ 1000 := by
    unfold ofN
    exact Nat.le_trans (List.length_filter_le _ _) (by simp)
  have hcon := Tryd.slices_DeleteFunc (Value.int .i64) (fun _ => rfl) (fun x => decide (x = 0)) 16 #[] eg 0 Tryd.zeroValue3 g 0 1000 (cntRow ds).toArray w
    (fun W x _ => eof_zero x W) (fun n os dk x _ => eof_zero x _) hH (by rw [hsz]; omega) (by rw [hsz]; omega)
  rw [cntRow_filter, hsz] at hcon
  refine hcon.mono fun e w' hh => ?_
  obtain ⟨h1, q, rfl⟩ := hh
  refine ⟨h1, ?_, putRow_grown _⟩
  have hd : ((ofN ds 1000) ++ List.replicate (1000 - (ofN ds 1000).length) 0).toArray.size = 1000 := by
    rw [List.size_toArray, List.length_append, List.length_replicate]; omega
  refine ⟨_, 1000, rfl, hlen, by omega, by rw [i64l_length, Nat.mul_one], fun _ => ⟨_, rfl, ?_, fun j u hu => ?_⟩⟩
  · rw [size_putRow]; exact h.blk
  · have hj : j < (ofN ds 1000).length := by
      have := (List.getElem?_eq_some_iff.1 hu).1
      rw [i64l_length] at this
      exact this
    have h2 := cell?_putRow (Value.int .i64) (Sort.ahead w q) g 0 (cntRow ds).toArray ((ofN ds 1000) ++ List.replicate (1000 - (ofN ds 1000).length) 0).toArray hH (by rw [hd, hsz]) j (by rw [hd]; omega)
    have ha : (⟨g, 0, none⟩ : Addr).add j = ⟨g, 0 + j, none⟩ := by
      unfold Addr.add
      by_cases hj0 : j = 0 <;> simp [hj0]
    rw [ha, h2, ← hu, i64l_get _ hj]
    congr 2
    rw [getElem!_pos _ _ (by rw [hd]; omega), List.getElem_toArray, List.getElem_append_left hj, List.getD_eq_getElem?_getD, List.getElem?_eq_getElem hj]
    rfl

end Go.Proofs.YtfnngchanhnaiaaDoor
