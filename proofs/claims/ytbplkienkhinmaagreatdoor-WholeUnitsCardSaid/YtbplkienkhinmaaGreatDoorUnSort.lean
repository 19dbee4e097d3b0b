/- The library's sort of few ints: insertion. -/
import Derived.Test.YtbplkienkhinmaaGreatDoorUnS
import Derived.Test.YtbplkienkhinmaaGreatDoorHoldM
import Derived.Test.YtbplkienkhinmaaGreatDoorShelf
set_option linter.unusedVariables false
set_option linter.unusedSimpArgs false
set_option maxRecDepth 100000
namespace Go.Proofs.YtbplkienkhinmaaGreatDoor
open Go.RowKit Num

/-- The element at j sinks to its place. -/
def sink : Nat → List Int → List Int
  | 0, xs => xs
  | j + 1, xs => if xs.getD (j + 1) 0 < xs.getD j 0 then sink j ((xs.set (j + 1) (xs.getD j 0)).set j (xs.getD (j + 1) 0)) else xs
/-- The first k + 1 elements are in order. -/
def insTo : Nat → List Int → List Int
  | 0, xs => xs
  | k + 1, xs => sink (k + 1) (insTo k xs)
def insL (xs : List Int) : List Int := insTo (xs.length - 1) xs
theorem sink_length : ∀ (j : Nat) (xs : List Int), (sink j xs).length = xs.length
  | 0, _ => rfl
  | j + 1, xs => by
    unfold sink
    split
    · rw [sink_length j]; simp
    · rfl
theorem insTo_length : ∀ (k : Nat) (xs : List Int), (insTo k xs).length = xs.length
  | 0, _ => rfl
  | k + 1, xs => by
    show (sink (k + 1) (insTo k xs)).length = _
    rw [sink_length, insTo_length k]
theorem insL_length (xs : List Int) : (insL xs).length = xs.length := insTo_length _ _
theorem sink_mem : ∀ (j : Nat) (xs : List Int) (x : Int), j < xs.length → x ∈ sink j xs → x ∈ xs
  | 0, _, _, _, h => h
  | j + 1, xs, x, hj, h => by
    unfold sink at h
    split at h
    · have h1 := sink_mem j _ x (by simp; omega) h
      rcases List.mem_or_eq_of_mem_set h1 with h2 | h2
      · rcases List.mem_or_eq_of_mem_set h2 with h3 | h3
        · exact h3
        · rw [h3]; exact getD_memU (by omega)
      · rw [h2]; exact getD_memU hj
    · exact h
theorem insTo_mem : ∀ (k : Nat) (xs : List Int) (x : Int), k < xs.length → x ∈ insTo k xs → x ∈ xs
  | 0, _, _, _, h => h
  | k + 1, xs, x, hk, h => insTo_mem k xs x (by omega) (sink_mem (k + 1) _ x (by rw [insTo_length]; exact hk) h)
theorem insL_mem {xs : List Int} {x : Int} (h : x ∈ insL xs) : x ∈ xs := by
  rcases xs with _ | ⟨a, l⟩
  · exact h
  · exact insTo_mem _ _ _ (by simp) h

theorem unan {x : Int} {w : World} : Calls Tryz.prog 105 #[.int .i64 x] w (fun e w' => e = .returned (.bool false) ∧ w' = w) := by
  go_enter Tryz.func105, Tryz.ntmps105
  go_wp2
  go_ret
  exact ⟨by simp, rfl⟩
theorem uless {x y : Int} {w : World} : Calls Tryz.prog 85 #[.int .i64 x, .int .i64 y] w (fun e w' => e = .returned (.bool (decide (x < y))) ∧ w' = w) := by
  go_enter Tryz.func85, Tryz.ntmps85
  go_wp2_with (go_at_call 105; (with_reducible refine unan.mono ?_); rintro e w1 ⟨rfl, hw1⟩; obtain rfl : w = w1 := hw1.symm)
  go_ret
  exact ⟨rfl, rfl⟩

/-- A row of ints of the call's own, with room behind it. -/
def RowI (base : Nat) (w : World) (g n c : Nat) (xs : List Int) : Prop := w.ownsRow base 3 1 (.slice (some ⟨g, 0, none⟩) n c) n (i64l xs)
section
variable {base g n c : Nat} {w w' : World} {xs : List Int}
theorem RowI.len (h : RowI base w g n c xs) : xs.length = n := by have := h.1; simpa [i64l_length] using this
theorem RowI.ext (h : RowI base w g n c xs) (hE : Ext w w') : RowI base w' g n c xs := World.ownsRow.kept h (Ext.grown hE) (.inr (by simp [Value.ownBlock]))
theorem RowI.put (h : RowI base w g n c xs) (k : Nat) (z : Int) : RowI base (w.setCell ⟨g, k, none⟩ (.int .i64 z)) g n c (xs.set k z) ∧ w.grownBy (w.setCell ⟨g, k, none⟩ (.int .i64 z)) (some g) := by
  obtain ⟨h1, h2⟩ := World.ownsRow.stored h k (.int .i64 z)
  have e : (i64l xs).set k (.int .i64 z) = i64l (xs.set k z) := by unfold i64l; rw [List.map_set]
  rw [e] at h1
  exact ⟨h1, h2⟩
theorem RowI.at_ (h : RowI base w g n c xs) {k : Nat} (hk : k < n) : w.cell? ⟨g, k, none⟩ = some (.int .i64 (xs.getD k 0)) ∧ w.frozen? ⟨g, k, none⟩ = false :=
  ⟨(World.ownsRow.cellAt h k (by have := h.len; omega)).trans (i64l_get xs (by have := h.len; omega)), World.ownsRow.frozenAt h k⟩
end
theorem grownBy_refl (w : World) (row : Option Nat) : w.grownBy w row := ⟨rfl, rfl, rfl, Nat.le_refl _, fun _ _ _ => rfl⟩
theorem grownBy_ext {w w1 w2 : World} {row : Option Nat} (h : w.grownBy w1 row) (hE : Ext w1 w2) : w.grownBy w2 row := grownBy_twoU h ⟨hE.os, hE.tape, hE.output, hE.size, fun k hk _ => hE.block k hk⟩
/-- What a sort leaves. -/
def Sorts (base : Nat) (w : World) (g n c : Nat) (xs : List Int) (e : Ending) (w' : World) : Prop := e = .returned (.tuple #[]) ∧ RowI base w' g n c xs ∧ w.grownBy w' (some g)

set_option maxHeartbeats 8000000 in
theorem uinsert {base g n c : Nat} {xs : List Int} {w : World} (h : RowI base w g n c xs) (hn : 1 ≤ n) (hn2 : n ≤ 12) :
    Calls Tryz.prog 79 #[.slice (some ⟨g, 0, none⟩) n c, .int .i64 0, .int .i64 n] w (Sorts base w g n c (insL xs)) := by
  have HL := Lib.hid h.len
  have H := Lib.hid h
  clear h
  go_enter Tryz.func79, Tryz.ntmps79
  go_wp2
  go_loopw [6] (fun iv wr => ∃ k : Nat, k + 1 ≤ n ∧ iv = .int .i64 ((k : Int) + 1) ∧ Hid (RowI base wr g n c (insTo k xs)) ∧ w.grownBy wr (some g)) (fun iv _ => n - (intOf iv).toNat)
  case atStart => exact ⟨0, hn, rfl, H, grownBy_refl _ _⟩
  case round =>
    obtain ⟨k, hk, rfl, hR, hg⟩ := hrel
    by_cases hkn : k + 1 < n
    · have hk1 : (k : Int) + 1 < (n : Int) := by omega
      have hk12 : (k : Int) ≤ 12 := by omega
      have HG := Lib.hid hg
      go_wp2
      go_loopw [7] (fun jv wr => ∃ (j : Nat) (ys : List Int), j ≤ k + 1 ∧ jv = .int .i64 j ∧ Hid (RowI base wr g n c ys) ∧ Hid (sink j ys = sink (k + 1) (insTo k xs)) ∧ w.grownBy wr (some g)) (fun jv _ => (intOf jv).toNat)
      case atStart => exact ⟨k + 1, insTo k xs, Nat.le_refl _, rfl, hR, Lib.hid rfl, hg⟩
      case round =>
        clear hR hg HG
        obtain ⟨j, ys, hj, rfl, hR, hS, hg⟩ := hrel
        have gD : Ext wr wr.drew := (Below.refl _ _).drew
        rcases j with _ | j
        · go_upto_region 4 with (fail)
          refine wp_region_G (fun w' => Ext wr w') [14] (by kernel_rfl) ?_
          have gS : Ext wr wr.drew := (Below.refl _ _).drew
          refine wpAnyG_take 0 (v := ?_) rfl (by kernel_rfl) (by kernel_rfl) (by kernel_rfl) (by kernel_rfl) (by rfl) (by kernel_rfl) (fun _ _ _ h => h) (by rfl) (fun w' hw' => ?_) gS ?_
          rotate_left
          focus (go_simp; (try with_reducible rfl); done)
          (try simp only [Act.put, List.getElem_toArray, List.getElem_cons_succ, List.getElem_cons_zero, List.setIfInBounds_toArray, List.set_cons_zero, List.set_cons_succ])
          refine wpAnyG_take 1 (v := ?_) rfl (by kernel_rfl) (by kernel_rfl) (by kernel_rfl) (by kernel_rfl) (by rfl) (by kernel_rfl) (fun _ _ _ h => h) (by rfl) (fun w' hw' => ?_) gS ?_
          rotate_left
          focus (go_simp; (try with_reducible rfl); done)
          (try simp only [Act.put, List.getElem_toArray, List.getElem_cons_succ, List.getElem_cons_zero, List.setIfInBounds_toArray, List.set_cons_zero, List.set_cons_succ])
          refine wpAnyG_take 2 (v := ?_) rfl (by kernel_rfl) (by kernel_rfl) (by kernel_rfl) (by kernel_rfl) (by rfl) (by kernel_rfl) (fun _ _ _ h => h) (by rfl) (fun w' hw' => ?_) gS ?_
          rotate_left
          focus (go_simp; (try with_reducible rfl); done)
          (try simp only [Act.put, List.getElem_toArray, List.getElem_cons_succ, List.getElem_cons_zero, List.setIfInBounds_toArray, List.set_cons_zero, List.set_cons_succ])
          refine wpAnyG_take 3 (v := ?_) rfl (by kernel_rfl) (by kernel_rfl) (by kernel_rfl) (by kernel_rfl) (by rfl) (by kernel_rfl) (fun _ _ _ h => h) (by rfl) (fun w' hw' => ?_) gS ?_
          rotate_left
          focus (go_simp; (try with_reducible rfl); done)
          (try simp only [Act.put, List.getElem_toArray, List.getElem_cons_succ, List.getElem_cons_zero, List.setIfInBounds_toArray, List.set_cons_zero, List.set_cons_succ])
          refine wpAnyG_skip 4 rfl (by kernel_rfl) (by kernel_rfl) (by kernel_rfl) (by kernel_rfl) (by rfl) (by kernel_rfl) (fun _ _ _ h => h) (by rfl) gS ?_
          (try simp only [Act.put, List.getElem_toArray, List.getElem_cons_succ, List.getElem_cons_zero, List.setIfInBounds_toArray, List.set_cons_zero, List.set_cons_succ])
          refine wpAnyG_skip 5 rfl (by kernel_rfl) (by kernel_rfl) (by kernel_rfl) (by kernel_rfl) (by rfl) (by kernel_rfl) (fun _ _ _ h => h) (by rfl) gS ?_
          (try simp only [Act.put, List.getElem_toArray, List.getElem_cons_succ, List.getElem_cons_zero, List.setIfInBounds_toArray, List.set_cons_zero, List.set_cons_succ])
          refine wpAnyG_skip 6 rfl (by kernel_rfl) (by kernel_rfl) (by kernel_rfl) (by kernel_rfl) (by rfl) (by kernel_rfl) (fun _ _ _ h => h) (by rfl) gS ?_
          (try simp only [Act.put, List.getElem_toArray, List.getElem_cons_succ, List.getElem_cons_zero, List.setIfInBounds_toArray, List.set_cons_zero, List.set_cons_succ])
          refine wpAnyG_skip 7 rfl (by kernel_rfl) (by kernel_rfl) (by kernel_rfl) (by kernel_rfl) (by rfl) (by kernel_rfl) (fun _ _ _ h => h) (by rfl) gS ?_
          (try simp only [Act.put, List.getElem_toArray, List.getElem_cons_succ, List.getElem_cons_zero, List.setIfInBounds_toArray, List.set_cons_zero, List.set_cons_succ])
          refine wpAnyG_skip 8 rfl (by kernel_rfl) (by kernel_rfl) (by kernel_rfl) (by kernel_rfl) (by rfl) (by kernel_rfl) (fun _ _ _ h => h) (by rfl) gS ?_
          (try simp only [Act.put, List.getElem_toArray, List.getElem_cons_succ, List.getElem_cons_zero, List.setIfInBounds_toArray, List.set_cons_zero, List.set_cons_succ])
          refine wpAnyG_skip 9 rfl (by kernel_rfl) (by kernel_rfl) (by kernel_rfl) (by kernel_rfl) (by rfl) (by kernel_rfl) (fun _ _ _ h => h) (by rfl) gS ?_
          (try simp only [Act.put, List.getElem_toArray, List.getElem_cons_succ, List.getElem_cons_zero, List.setIfInBounds_toArray, List.set_cons_zero, List.set_cons_succ])
          refine wpAnyG_skip 10 rfl (by kernel_rfl) (by kernel_rfl) (by kernel_rfl) (by kernel_rfl) (by rfl) (by kernel_rfl) (fun _ _ _ h => h) (by rfl) gS ?_
          (try simp only [Act.put, List.getElem_toArray, List.getElem_cons_succ, List.getElem_cons_zero, List.setIfInBounds_toArray, List.set_cons_zero, List.set_cons_succ])
          refine wpAnyG_skip 11 rfl (by kernel_rfl) (by kernel_rfl) (by kernel_rfl) (by kernel_rfl) (by rfl) (by kernel_rfl) (fun _ _ _ h => h) (by rfl) gS ?_
          (try simp only [Act.put, List.getElem_toArray, List.getElem_cons_succ, List.getElem_cons_zero, List.setIfInBounds_toArray, List.set_cons_zero, List.set_cons_succ])
          refine wpAnyG_skip 12 rfl (by kernel_rfl) (by kernel_rfl) (by kernel_rfl) (by kernel_rfl) (by rfl) (by kernel_rfl) (fun _ _ _ h => h) (by rfl) gS ?_
          (try simp only [Act.put, List.getElem_toArray, List.getElem_cons_succ, List.getElem_cons_zero, List.setIfInBounds_toArray, List.set_cons_zero, List.set_cons_succ])
          refine wpAnyG_skip 13 rfl (by kernel_rfl) (by kernel_rfl) (by kernel_rfl) (by kernel_rfl) (by rfl) (by kernel_rfl) (fun _ _ _ h => h) (by rfl) gS ?_
          (try simp only [Act.put, List.getElem_toArray, List.getElem_cons_succ, List.getElem_cons_zero, List.setIfInBounds_toArray, List.set_cons_zero, List.set_cons_succ])
          refine wpAnyG_one 14 (by kernel_rfl) rfl (by rfl) (fun K hK => ?_)
          (try simp only [List.getElem_toArray, List.getElem_cons_succ, List.getElem_cons_zero])
          go_simp
          refine hK.out _ _ (fun h => absurd h (by decide)) ?_
          clear hK K
          (try simp only [Act.put, List.getElem_toArray, List.getElem_cons_succ, List.getElem_cons_zero, List.setIfInBounds_toArray, List.set_cons_zero, List.set_cons_succ])
          refine wpAnyG_done (by kernel_rfl) ?_ _
          go_wp2
          go_roundw
          case rel => exact ⟨k + 1, by omega, by go_num, Lib.hid (by show RowI base _ g n c (sink (k + 1) (insTo k xs)); rw [← hS.out]; exact hR.out.ext gD), grownBy_ext hg gD⟩
          case measure => simp [intOf]; omega
        · obtain ⟨x, hx⟩ : ∃ x, x = ys.getD (j + 1) 0 := ⟨_, rfl⟩
          obtain ⟨y, hy⟩ : ∃ y, y = ys.getD j 0 := ⟨_, rfl⟩
          have hcx := hR.out.at_ (k := j + 1) (by omega)
          have hcy := hR.out.at_ (k := j) (by omega)
          rw [← hx] at hcx
          rw [← hy] at hcy
          have hblk : g < wr.heap.size := World.block_lt_of_cell? _ _ hcx.1
          have HS := Lib.hid (fun (w' : World) (h : Ext wr w') => (⟨(h.cell (p := ⟨g, j + 1, none⟩) hblk).trans hcx.1, (h.cell (p := ⟨g, j, none⟩) hblk).trans hcy.1⟩ : w'.cell? ⟨g, j + 1, none⟩ = some (.int .i64 x) ∧ w'.cell? ⟨g, j, none⟩ = some (.int .i64 y)))
          have hi0 : (0 : Int) < (j : Int) + 1 := by omega
          have hi1 : (0 : Int) ≤ (j : Int) + 1 := by omega
          have hi2 : (j : Int) + 1 < (n : Int) := by omega
          have hi3 : (0 : Int) ≤ (j : Int) := by omega
          have hi4 : (j : Int) < (n : Int) := by omega
          have hw3 : IntKind.i64.wrap (j : Int) = (j : Int) := wrap_in (by omega)
          have hw4 : IntKind.i64.wrap ((j : Int) + 1) = (j : Int) + 1 := wrap_in (by omega)
          have htn : ((j : Int) + 1).toNat = j + 1 := by omega
          have HXY := Lib.hid (And.intro hx hy)
          have HCX := Lib.hid (And.intro hcx hcy)
          have hsk : sink (j + 1) ys = if x < y then sink j ((ys.set (j + 1) y).set j x) else ys := by rw [hx, hy]; rfl
          clear hx hy hcx hcy hblk
          by_cases hq : x < y
          · have hd : decide (x < y) = true := decide_eq_true hq
            rw [if_pos hq] at hsk
            have HSK := Lib.hid hsk
            clear hsk
            go_upto_region 4 with (fail)
            refine wp_region_G (fun w' => Ext wr w') [14] (by kernel_rfl) ?_
            have gS : Ext wr wr.drew := (Below.refl _ _).drew
            refine wpAnyG_take 0 (v := ?_) rfl (by kernel_rfl) (by kernel_rfl) (by kernel_rfl) (by kernel_rfl) (by rfl) (by kernel_rfl) (fun _ _ _ h => h) (by rfl) (fun w' hw' => ?_) gS ?_
            rotate_left
            focus (go_simp; (try with_reducible rfl); done)
            (try simp only [Act.put, List.getElem_toArray, List.getElem_cons_succ, List.getElem_cons_zero, List.setIfInBounds_toArray, List.set_cons_zero, List.set_cons_succ])
            refine wpAnyG_take 1 (v := ?_) rfl (by kernel_rfl) (by kernel_rfl) (by kernel_rfl) (by kernel_rfl) (by rfl) (by kernel_rfl) (fun _ _ _ h => h) (by rfl) (fun w' hw' => ?_) gS ?_
            rotate_left
            focus (go_simp; (try with_reducible rfl); done)
            (try simp only [Act.put, List.getElem_toArray, List.getElem_cons_succ, List.getElem_cons_zero, List.setIfInBounds_toArray, List.set_cons_zero, List.set_cons_succ])
            refine wpAnyG_take 2 (v := ?_) rfl (by kernel_rfl) (by kernel_rfl) (by kernel_rfl) (by kernel_rfl) (by rfl) (by kernel_rfl) (fun _ _ _ h => h) (by rfl) (fun w' hw' => ?_) gS ?_
            rotate_left
            focus (go_simp; (try with_reducible rfl); done)
            (try simp only [Act.put, List.getElem_toArray, List.getElem_cons_succ, List.getElem_cons_zero, List.setIfInBounds_toArray, List.set_cons_zero, List.set_cons_succ])
            refine wpAnyG_take 3 (v := ?_) rfl (by kernel_rfl) (by kernel_rfl) (by kernel_rfl) (by kernel_rfl) (by rfl) (by kernel_rfl) (fun _ _ _ h => h) (by rfl) (fun w' hw' => ?_) gS ?_
            rotate_left
            focus (go_simp; (try with_reducible rfl); done)
            (try simp only [Act.put, List.getElem_toArray, List.getElem_cons_succ, List.getElem_cons_zero, List.setIfInBounds_toArray, List.set_cons_zero, List.set_cons_succ])
            refine wpAnyG_take 4 (v := ?_) rfl (by kernel_rfl) (by kernel_rfl) (by kernel_rfl) (by kernel_rfl) (by rfl) (by kernel_rfl) (fun _ _ _ h => h) (by rfl) (fun w' hw' => ?_) gS ?_
            rotate_left
            focus (go_simp; (try with_reducible rfl); done)
            (try simp only [Act.put, List.getElem_toArray, List.getElem_cons_succ, List.getElem_cons_zero, List.setIfInBounds_toArray, List.set_cons_zero, List.set_cons_succ])
            refine wpAnyG_take 5 (v := ?_) rfl (by kernel_rfl) (by kernel_rfl) (by kernel_rfl) (by kernel_rfl) (by rfl) (by kernel_rfl) (fun _ _ _ h => h) (by rfl) (fun w' hw' => ?_) gS ?_
            rotate_left
            focus (go_simp; (try with_reducible rfl); done)
            (try simp only [Act.put, List.getElem_toArray, List.getElem_cons_succ, List.getElem_cons_zero, List.setIfInBounds_toArray, List.set_cons_zero, List.set_cons_succ])
            refine wpAnyG_take 6 (v := ?_) rfl (by kernel_rfl) (by kernel_rfl) (by kernel_rfl) (by kernel_rfl) (by rfl) (by kernel_rfl) (fun _ _ _ h => h) (by rfl) (fun w' hw' => ?_) gS ?_
            rotate_left
            focus (go_simp; (try with_reducible rfl); done)
            (try simp only [Act.put, List.getElem_toArray, List.getElem_cons_succ, List.getElem_cons_zero, List.setIfInBounds_toArray, List.set_cons_zero, List.set_cons_succ])
            refine wpAnyG_take 7 (v := ?_) rfl (by kernel_rfl) (by kernel_rfl) (by kernel_rfl) (by kernel_rfl) (by rfl) (by kernel_rfl) (fun _ _ _ h => h) (by rfl) (fun w' hw' => ?_) gS ?_
            rotate_left
            focus (have hh := HS.out _ hw'; go_split_ands; go_simp; (try with_reducible rfl); done)
            (try simp only [Act.put, List.getElem_toArray, List.getElem_cons_succ, List.getElem_cons_zero, List.setIfInBounds_toArray, List.set_cons_zero, List.set_cons_succ])
            refine wpAnyG_take 8 (v := ?_) rfl (by kernel_rfl) (by kernel_rfl) (by kernel_rfl) (by kernel_rfl) (by rfl) (by kernel_rfl) (fun _ _ _ h => h) (by rfl) (fun w' hw' => ?_) gS ?_
            rotate_left
            focus (go_simp; (try with_reducible rfl); done)
            (try simp only [Act.put, List.getElem_toArray, List.getElem_cons_succ, List.getElem_cons_zero, List.setIfInBounds_toArray, List.set_cons_zero, List.set_cons_succ])
            refine wpAnyG_take 9 (v := ?_) rfl (by kernel_rfl) (by kernel_rfl) (by kernel_rfl) (by kernel_rfl) (by rfl) (by kernel_rfl) (fun _ _ _ h => h) (by rfl) (fun w' hw' => ?_) gS ?_
            rotate_left
            focus (go_simp; (try with_reducible rfl); done)
            (try simp only [Act.put, List.getElem_toArray, List.getElem_cons_succ, List.getElem_cons_zero, List.setIfInBounds_toArray, List.set_cons_zero, List.set_cons_succ])
            refine wpAnyG_take 10 (v := ?_) rfl (by kernel_rfl) (by kernel_rfl) (by kernel_rfl) (by kernel_rfl) (by rfl) (by kernel_rfl) (fun _ _ _ h => h) (by rfl) (fun w' hw' => ?_) gS ?_
            rotate_left
            focus (go_simp; (try with_reducible rfl); done)
            (try simp only [Act.put, List.getElem_toArray, List.getElem_cons_succ, List.getElem_cons_zero, List.setIfInBounds_toArray, List.set_cons_zero, List.set_cons_succ])
            refine wpAnyG_take 11 (v := ?_) rfl (by kernel_rfl) (by kernel_rfl) (by kernel_rfl) (by kernel_rfl) (by rfl) (by kernel_rfl) (fun _ _ _ h => h) (by rfl) (fun w' hw' => ?_) gS ?_
            rotate_left
            focus (go_simp; (try with_reducible rfl); done)
            (try simp only [Act.put, List.getElem_toArray, List.getElem_cons_succ, List.getElem_cons_zero, List.setIfInBounds_toArray, List.set_cons_zero, List.set_cons_succ])
            refine wpAnyG_take 12 (v := ?_) rfl (by kernel_rfl) (by kernel_rfl) (by kernel_rfl) (by kernel_rfl) (by rfl) (by kernel_rfl) (fun _ _ _ h => h) (by rfl) (fun w' hw' => ?_) gS ?_
            rotate_left
            focus (have hh := HS.out _ hw'; go_split_ands; go_simp; (try with_reducible rfl); done)
            (try simp only [Act.put, List.getElem_toArray, List.getElem_cons_succ, List.getElem_cons_zero, List.setIfInBounds_toArray, List.set_cons_zero, List.set_cons_succ])
            refine wpAnyG_one 13 (by kernel_rfl) rfl (by rfl) (fun K hK => ?_)
            (try simp only [List.getElem_toArray, List.getElem_cons_succ, List.getElem_cons_zero])
            go_simp
            go_at_call 85
            refine uless.mono ?_
            rintro _ s1 ⟨rfl, rfl⟩
            (try go_wp2_with fail)
            refine hK.out _ _ (fun _ => gS) ?_
            clear hK K
            (try simp only [Act.put, List.getElem_toArray, List.getElem_cons_succ, List.getElem_cons_zero, List.setIfInBounds_toArray, List.set_cons_zero, List.set_cons_succ])
            refine wpAnyG_one 14 (by kernel_rfl) rfl (by rfl) (fun K hK => ?_)
            (try simp only [List.getElem_toArray, List.getElem_cons_succ, List.getElem_cons_zero])
            go_simp
            refine hK.out _ _ (fun h => absurd h (by decide)) ?_
            clear hK K
            (try simp only [Act.put, List.getElem_toArray, List.getElem_cons_succ, List.getElem_cons_zero, List.setIfInBounds_toArray, List.set_cons_zero, List.set_cons_succ])
            refine wpAnyG_done (by kernel_rfl) ?_ _
            go_upto_region 6 with (fail)
            have HR5 := Lib.hid (hR.out.ext gD)
            have HG5 := Lib.hid (grownBy_ext hg gD)
            have HS := Lib.hid (fun (w' : World) (h : Ext wr.drew w') => HS.out w' (gD.trans h))
            clear hR hg gS gD
            generalize wr.drew = w5 at *
            refine wp_region_H (fun w' => Ext w5 w') [15, 16, 17] (by kernel_rfl) ?_
            have gS : Ext w5 w5.drew := (Below.refl _ _).drew
            refine wpAnyH_take 0 (v := ?_) rfl (by kernel_rfl) (by kernel_rfl) (by kernel_rfl) (by kernel_rfl) (by kernel_rfl) (fun _ _ _ h => h) (by rfl) (fun w' hw' => ?_) gS ?_
            rotate_left
            focus (go_simp; (try with_reducible rfl); done)
            (try simp only [Act.put, List.getElem_toArray, List.getElem_cons_succ, List.getElem_cons_zero, List.setIfInBounds_toArray, List.set_cons_zero, List.set_cons_succ])
            refine wpAnyH_take 1 (v := ?_) rfl (by kernel_rfl) (by kernel_rfl) (by kernel_rfl) (by kernel_rfl) (by kernel_rfl) (fun _ _ _ h => h) (by rfl) (fun w' hw' => ?_) gS ?_
            rotate_left
            focus (go_simp; (try with_reducible rfl); done)
            (try simp only [Act.put, List.getElem_toArray, List.getElem_cons_succ, List.getElem_cons_zero, List.setIfInBounds_toArray, List.set_cons_zero, List.set_cons_succ])
            refine wpAnyH_takeF 2 (v := ?_) rfl (by kernel_rfl) (by kernel_rfl) (by kernel_rfl) (by kernel_rfl) (fun _ _ _ h => h) (by rfl) (fun w' => ?_) ?_
            rotate_left
            focus (go_simp; (try with_reducible rfl); done)
            (try simp only [Act.put, List.getElem_toArray, List.getElem_cons_succ, List.getElem_cons_zero, List.setIfInBounds_toArray, List.set_cons_zero, List.set_cons_succ])
            refine wpAnyH_takeF 3 (v := ?_) rfl (by kernel_rfl) (by kernel_rfl) (by kernel_rfl) (by kernel_rfl) (fun _ _ _ h => h) (by rfl) (fun w' => ?_) ?_
            rotate_left
            focus (go_simp; (try with_reducible rfl); done)
            (try simp only [Act.put, List.getElem_toArray, List.getElem_cons_succ, List.getElem_cons_zero, List.setIfInBounds_toArray, List.set_cons_zero, List.set_cons_succ])
            refine wpAnyH_takeF 4 (v := ?_) rfl (by kernel_rfl) (by kernel_rfl) (by kernel_rfl) (by kernel_rfl) (fun _ _ _ h => h) (by rfl) (fun w' => ?_) ?_
            rotate_left
            focus (go_simp; (try with_reducible rfl); done)
            (try simp only [Act.put, List.getElem_toArray, List.getElem_cons_succ, List.getElem_cons_zero, List.setIfInBounds_toArray, List.set_cons_zero, List.set_cons_succ])
            refine wpAnyH_take 5 (v := ?_) rfl (by kernel_rfl) (by kernel_rfl) (by kernel_rfl) (by kernel_rfl) (by kernel_rfl) (fun _ _ _ h => h) (by rfl) (fun w' hw' => ?_) gS ?_
            rotate_left
            focus (go_simp; (try with_reducible rfl); done)
            (try simp only [Act.put, List.getElem_toArray, List.getElem_cons_succ, List.getElem_cons_zero, List.setIfInBounds_toArray, List.set_cons_zero, List.set_cons_succ])
            refine wpAnyH_take 6 (v := ?_) rfl (by kernel_rfl) (by kernel_rfl) (by kernel_rfl) (by kernel_rfl) (by kernel_rfl) (fun _ _ _ h => h) (by rfl) (fun w' hw' => ?_) gS ?_
            rotate_left
            focus (go_simp; (try with_reducible rfl); done)
            (try simp only [Act.put, List.getElem_toArray, List.getElem_cons_succ, List.getElem_cons_zero, List.setIfInBounds_toArray, List.set_cons_zero, List.set_cons_succ])
            refine wpAnyH_take 7 (v := ?_) rfl (by kernel_rfl) (by kernel_rfl) (by kernel_rfl) (by kernel_rfl) (by kernel_rfl) (fun _ _ _ h => h) (by rfl) (fun w' hw' => ?_) gS ?_
            rotate_left
            focus (go_simp; (try with_reducible rfl); done)
            (try simp only [Act.put, List.getElem_toArray, List.getElem_cons_succ, List.getElem_cons_zero, List.setIfInBounds_toArray, List.set_cons_zero, List.set_cons_succ])
            refine wpAnyH_take 8 (v := ?_) rfl (by kernel_rfl) (by kernel_rfl) (by kernel_rfl) (by kernel_rfl) (by kernel_rfl) (fun _ _ _ h => h) (by rfl) (fun w' hw' => ?_) gS ?_
            rotate_left
            focus (go_simp; (try with_reducible rfl); done)
            (try simp only [Act.put, List.getElem_toArray, List.getElem_cons_succ, List.getElem_cons_zero, List.setIfInBounds_toArray, List.set_cons_zero, List.set_cons_succ])
            refine wpAnyH_take 9 (v := ?_) rfl (by kernel_rfl) (by kernel_rfl) (by kernel_rfl) (by kernel_rfl) (by kernel_rfl) (fun _ _ _ h => h) (by rfl) (fun w' hw' => ?_) gS ?_
            rotate_left
            focus (have hh := HS.out _ hw'; go_split_ands; go_simp; (try with_reducible rfl); done)
            (try simp only [Act.put, List.getElem_toArray, List.getElem_cons_succ, List.getElem_cons_zero, List.setIfInBounds_toArray, List.set_cons_zero, List.set_cons_succ])
            refine wpAnyH_take 10 (v := ?_) rfl (by kernel_rfl) (by kernel_rfl) (by kernel_rfl) (by kernel_rfl) (by kernel_rfl) (fun _ _ _ h => h) (by rfl) (fun w' hw' => ?_) gS ?_
            rotate_left
            focus (go_simp; (try with_reducible rfl); done)
            (try simp only [Act.put, List.getElem_toArray, List.getElem_cons_succ, List.getElem_cons_zero, List.setIfInBounds_toArray, List.set_cons_zero, List.set_cons_succ])
            refine wpAnyH_take 11 (v := ?_) rfl (by kernel_rfl) (by kernel_rfl) (by kernel_rfl) (by kernel_rfl) (by kernel_rfl) (fun _ _ _ h => h) (by rfl) (fun w' hw' => ?_) gS ?_
            rotate_left
            focus (go_simp; (try with_reducible rfl); done)
            (try simp only [Act.put, List.getElem_toArray, List.getElem_cons_succ, List.getElem_cons_zero, List.setIfInBounds_toArray, List.set_cons_zero, List.set_cons_succ])
            refine wpAnyH_take 12 (v := ?_) rfl (by kernel_rfl) (by kernel_rfl) (by kernel_rfl) (by kernel_rfl) (by kernel_rfl) (fun _ _ _ h => h) (by rfl) (fun w' hw' => ?_) gS ?_
            rotate_left
            focus (go_simp; (try with_reducible rfl); done)
            (try simp only [Act.put, List.getElem_toArray, List.getElem_cons_succ, List.getElem_cons_zero, List.setIfInBounds_toArray, List.set_cons_zero, List.set_cons_succ])
            refine wpAnyH_take 13 (v := ?_) rfl (by kernel_rfl) (by kernel_rfl) (by kernel_rfl) (by kernel_rfl) (by kernel_rfl) (fun _ _ _ h => h) (by rfl) (fun w' hw' => ?_) gS ?_
            rotate_left
            focus (have hh := HS.out _ hw'; go_split_ands; go_simp; (try with_reducible rfl); done)
            (try simp only [Act.put, List.getElem_toArray, List.getElem_cons_succ, List.getElem_cons_zero, List.setIfInBounds_toArray, List.set_cons_zero, List.set_cons_succ])
            refine wpAnyH_take 14 (v := ?_) rfl (by kernel_rfl) (by kernel_rfl) (by kernel_rfl) (by kernel_rfl) (by kernel_rfl) (fun _ _ _ h => h) (by rfl) (fun w' hw' => ?_) gS ?_
            rotate_left
            focus (go_simp; (try with_reducible rfl); done)
            (try simp only [Act.put, List.getElem_toArray, List.getElem_cons_succ, List.getElem_cons_zero, List.setIfInBounds_toArray, List.set_cons_zero, List.set_cons_succ])
            obtain ⟨t0, t1⟩ := HR5.out.at_ (k := j + 1) (by omega)
            obtain ⟨t2, t3⟩ := (HR5.out.put (j + 1) y).1.at_ (k := j) (by omega)
            refine wpAnyH_one 15 (by kernel_rfl) rfl (by rfl) (fun K hK => ?_)
            (try simp only [List.getElem_toArray, List.getElem_cons_succ, List.getElem_cons_zero])
            go_simp
            refine hK.out _ _ (fun h => absurd h (by decide)) ?_
            clear hK K
            (try simp only [Act.put, List.getElem_toArray, List.getElem_cons_succ, List.getElem_cons_zero, List.setIfInBounds_toArray, List.set_cons_zero, List.set_cons_succ])
            refine wpAnyH_one 16 (by kernel_rfl) rfl (by rfl) (fun K hK => ?_)
            (try simp only [List.getElem_toArray, List.getElem_cons_succ, List.getElem_cons_zero])
            go_simp
            refine hK.out _ _ (fun h => absurd h (by decide)) ?_
            clear hK K
            (try simp only [Act.put, List.getElem_toArray, List.getElem_cons_succ, List.getElem_cons_zero, List.setIfInBounds_toArray, List.set_cons_zero, List.set_cons_succ])
            refine wpAnyH_one 17 (by kernel_rfl) rfl (by rfl) (fun K hK => ?_)
            (try simp only [List.getElem_toArray, List.getElem_cons_succ, List.getElem_cons_zero])
            go_simp
            refine hK.out _ _ (fun h => absurd h (by decide)) ?_
            clear hK K
            (try simp only [Act.put, List.getElem_toArray, List.getElem_cons_succ, List.getElem_cons_zero, List.setIfInBounds_toArray, List.set_cons_zero, List.set_cons_succ])
            refine wpAnyH_done (by kernel_rfl) ?_ _
            go_wp2
            go_roundw
            case rel => exact ⟨j, (ys.set (j + 1) y).set j x, by omega, by go_num, Lib.hid ((HR5.out.put (j + 1) y).1.put j x).1, Lib.hid (by rw [← hS.out, HSK.out]), grownBy_ext (grownBy_twoU (grownBy_twoU HG5.out (HR5.out.put (j + 1) y).2) ((HR5.out.put (j + 1) y).1.put j x).2) (Below.refl _ _).drew⟩
            case measure => simp [intOf]
          · have hd : decide (x < y) = false := decide_eq_false hq
            rw [if_neg hq] at hsk
            have HSK := Lib.hid hsk
            clear hsk
            go_upto_region 4 with (fail)
            refine wp_region_G (fun w' => Ext wr w') [14] (by kernel_rfl) ?_
            have gS : Ext wr wr.drew := (Below.refl _ _).drew
            refine wpAnyG_take 0 (v := ?_) rfl (by kernel_rfl) (by kernel_rfl) (by kernel_rfl) (by kernel_rfl) (by rfl) (by kernel_rfl) (fun _ _ _ h => h) (by rfl) (fun w' hw' => ?_) gS ?_
            rotate_left
            focus (go_simp; (try with_reducible rfl); done)
            (try simp only [Act.put, List.getElem_toArray, List.getElem_cons_succ, List.getElem_cons_zero, List.setIfInBounds_toArray, List.set_cons_zero, List.set_cons_succ])
            refine wpAnyG_take 1 (v := ?_) rfl (by kernel_rfl) (by kernel_rfl) (by kernel_rfl) (by kernel_rfl) (by rfl) (by kernel_rfl) (fun _ _ _ h => h) (by rfl) (fun w' hw' => ?_) gS ?_
            rotate_left
            focus (go_simp; (try with_reducible rfl); done)
            (try simp only [Act.put, List.getElem_toArray, List.getElem_cons_succ, List.getElem_cons_zero, List.setIfInBounds_toArray, List.set_cons_zero, List.set_cons_succ])
            refine wpAnyG_take 2 (v := ?_) rfl (by kernel_rfl) (by kernel_rfl) (by kernel_rfl) (by kernel_rfl) (by rfl) (by kernel_rfl) (fun _ _ _ h => h) (by rfl) (fun w' hw' => ?_) gS ?_
            rotate_left
            focus (go_simp; (try with_reducible rfl); done)
            (try simp only [Act.put, List.getElem_toArray, List.getElem_cons_succ, List.getElem_cons_zero, List.setIfInBounds_toArray, List.set_cons_zero, List.set_cons_succ])
            refine wpAnyG_take 3 (v := ?_) rfl (by kernel_rfl) (by kernel_rfl) (by kernel_rfl) (by kernel_rfl) (by rfl) (by kernel_rfl) (fun _ _ _ h => h) (by rfl) (fun w' hw' => ?_) gS ?_
            rotate_left
            focus (go_simp; (try with_reducible rfl); done)
            (try simp only [Act.put, List.getElem_toArray, List.getElem_cons_succ, List.getElem_cons_zero, List.setIfInBounds_toArray, List.set_cons_zero, List.set_cons_succ])
            refine wpAnyG_take 4 (v := ?_) rfl (by kernel_rfl) (by kernel_rfl) (by kernel_rfl) (by kernel_rfl) (by rfl) (by kernel_rfl) (fun _ _ _ h => h) (by rfl) (fun w' hw' => ?_) gS ?_
            rotate_left
            focus (go_simp; (try with_reducible rfl); done)
            (try simp only [Act.put, List.getElem_toArray, List.getElem_cons_succ, List.getElem_cons_zero, List.setIfInBounds_toArray, List.set_cons_zero, List.set_cons_succ])
            refine wpAnyG_take 5 (v := ?_) rfl (by kernel_rfl) (by kernel_rfl) (by kernel_rfl) (by kernel_rfl) (by rfl) (by kernel_rfl) (fun _ _ _ h => h) (by rfl) (fun w' hw' => ?_) gS ?_
            rotate_left
            focus (go_simp; (try with_reducible rfl); done)
            (try simp only [Act.put, List.getElem_toArray, List.getElem_cons_succ, List.getElem_cons_zero, List.setIfInBounds_toArray, List.set_cons_zero, List.set_cons_succ])
            refine wpAnyG_take 6 (v := ?_) rfl (by kernel_rfl) (by kernel_rfl) (by kernel_rfl) (by kernel_rfl) (by rfl) (by kernel_rfl) (fun _ _ _ h => h) (by rfl) (fun w' hw' => ?_) gS ?_
            rotate_left
            focus (go_simp; (try with_reducible rfl); done)
            (try simp only [Act.put, List.getElem_toArray, List.getElem_cons_succ, List.getElem_cons_zero, List.setIfInBounds_toArray, List.set_cons_zero, List.set_cons_succ])
            refine wpAnyG_take 7 (v := ?_) rfl (by kernel_rfl) (by kernel_rfl) (by kernel_rfl) (by kernel_rfl) (by rfl) (by kernel_rfl) (fun _ _ _ h => h) (by rfl) (fun w' hw' => ?_) gS ?_
            rotate_left
            focus (have hh := HS.out _ hw'; go_split_ands; go_simp; (try with_reducible rfl); done)
            (try simp only [Act.put, List.getElem_toArray, List.getElem_cons_succ, List.getElem_cons_zero, List.setIfInBounds_toArray, List.set_cons_zero, List.set_cons_succ])
            refine wpAnyG_take 8 (v := ?_) rfl (by kernel_rfl) (by kernel_rfl) (by kernel_rfl) (by kernel_rfl) (by rfl) (by kernel_rfl) (fun _ _ _ h => h) (by rfl) (fun w' hw' => ?_) gS ?_
            rotate_left
            focus (go_simp; (try with_reducible rfl); done)
            (try simp only [Act.put, List.getElem_toArray, List.getElem_cons_succ, List.getElem_cons_zero, List.setIfInBounds_toArray, List.set_cons_zero, List.set_cons_succ])
            refine wpAnyG_take 9 (v := ?_) rfl (by kernel_rfl) (by kernel_rfl) (by kernel_rfl) (by kernel_rfl) (by rfl) (by kernel_rfl) (fun _ _ _ h => h) (by rfl) (fun w' hw' => ?_) gS ?_
            rotate_left
            focus (go_simp; (try with_reducible rfl); done)
            (try simp only [Act.put, List.getElem_toArray, List.getElem_cons_succ, List.getElem_cons_zero, List.setIfInBounds_toArray, List.set_cons_zero, List.set_cons_succ])
            refine wpAnyG_take 10 (v := ?_) rfl (by kernel_rfl) (by kernel_rfl) (by kernel_rfl) (by kernel_rfl) (by rfl) (by kernel_rfl) (fun _ _ _ h => h) (by rfl) (fun w' hw' => ?_) gS ?_
            rotate_left
            focus (go_simp; (try with_reducible rfl); done)
            (try simp only [Act.put, List.getElem_toArray, List.getElem_cons_succ, List.getElem_cons_zero, List.setIfInBounds_toArray, List.set_cons_zero, List.set_cons_succ])
            refine wpAnyG_take 11 (v := ?_) rfl (by kernel_rfl) (by kernel_rfl) (by kernel_rfl) (by kernel_rfl) (by rfl) (by kernel_rfl) (fun _ _ _ h => h) (by rfl) (fun w' hw' => ?_) gS ?_
            rotate_left
            focus (go_simp; (try with_reducible rfl); done)
            (try simp only [Act.put, List.getElem_toArray, List.getElem_cons_succ, List.getElem_cons_zero, List.setIfInBounds_toArray, List.set_cons_zero, List.set_cons_succ])
            refine wpAnyG_take 12 (v := ?_) rfl (by kernel_rfl) (by kernel_rfl) (by kernel_rfl) (by kernel_rfl) (by rfl) (by kernel_rfl) (fun _ _ _ h => h) (by rfl) (fun w' hw' => ?_) gS ?_
            rotate_left
            focus (have hh := HS.out _ hw'; go_split_ands; go_simp; (try with_reducible rfl); done)
            (try simp only [Act.put, List.getElem_toArray, List.getElem_cons_succ, List.getElem_cons_zero, List.setIfInBounds_toArray, List.set_cons_zero, List.set_cons_succ])
            refine wpAnyG_one 13 (by kernel_rfl) rfl (by rfl) (fun K hK => ?_)
            (try simp only [List.getElem_toArray, List.getElem_cons_succ, List.getElem_cons_zero])
            go_simp
            go_at_call 85
            refine uless.mono ?_
            rintro _ s1 ⟨rfl, rfl⟩
            (try go_wp2_with fail)
            refine hK.out _ _ (fun _ => gS) ?_
            clear hK K
            (try simp only [Act.put, List.getElem_toArray, List.getElem_cons_succ, List.getElem_cons_zero, List.setIfInBounds_toArray, List.set_cons_zero, List.set_cons_succ])
            refine wpAnyG_one 14 (by kernel_rfl) rfl (by rfl) (fun K hK => ?_)
            (try simp only [List.getElem_toArray, List.getElem_cons_succ, List.getElem_cons_zero])
            go_simp
            refine hK.out _ _ (fun h => absurd h (by decide)) ?_
            clear hK K
            (try simp only [Act.put, List.getElem_toArray, List.getElem_cons_succ, List.getElem_cons_zero, List.setIfInBounds_toArray, List.set_cons_zero, List.set_cons_succ])
            refine wpAnyG_done (by kernel_rfl) ?_ _
            go_wp2
            go_roundw
            case rel => exact ⟨k + 1, by omega, by go_num, Lib.hid (by show RowI base _ g n c (sink (k + 1) (insTo k xs)); rw [← hS.out, HSK.out]; exact hR.out.ext gD), grownBy_ext hg gD⟩
            case measure => simp [intOf]; omega
    · have hkn1 : ¬ (k : Int) + 1 < (n : Int) := by omega
      have hlk : xs.length - 1 = k := by have := HL.out; omega
      have HLK := Lib.hid hlk
      clear hlk
      go_wp2
      go_end0
      exact ⟨rfl, by unfold insL; rw [HLK.out]; exact hR.out, hg⟩

theorem updq {base g n c : Nat} {xs : List Int} {z : Int} {w : World} (h : RowI base w g n c xs) (hn : 1 ≤ n) (hn2 : n ≤ 12) :
    Calls Tryz.prog 66 #[.slice (some ⟨g, 0, none⟩) n c, .int .i64 0, .int .i64 n, .int .i64 z] w (Sorts base w g n c (insL xs)) := by
  have H := Lib.hid (uinsert h hn hn2)
  clear h
  have h12 : (n : Int) ≤ 12 := by omega
  go_enter Tryz.func66, Tryz.ntmps66
  go_wp2
  go_loopw [1, 2] (fun a b wr => a = .int .i64 0 ∧ b = .int .i64 n ∧ wr = w) (fun _ _ _ => 0)
  case atStart => exact ⟨rfl, rfl, rfl⟩
  case round =>
    obtain ⟨rfl, rfl, hw⟩ := hrel
    obtain rfl : w = wr := hw.symm
    go_wp2_with (go_at_call 79; (with_reducible refine H.out.mono ?_); rintro e w1 ⟨rfl, h1, h2⟩)
    refine bodyPost_ret (results_none rfl _ _ _) rfl ?_
    exact ⟨rfl, h1, h2⟩
theorem ulen {x : Nat} {w : World} (hx : x ≤ 64) : Calls Tryz.prog 67 #[.int .u64 x] w (fun e w' => (∃ z : Int, e = .returned (.int .i64 z)) ∧ w' = w) := by
  have H := Lib.hid (Tryz.bits_Len64 (x : Int) w (by omega) (by omega))
  go_enter Tryz.func67, Tryz.ntmps67
  go_wp2_with (go_at_call 89; (with_reducible refine H.out.mono ?_); rintro e w1 ⟨rfl, hw1⟩; obtain rfl : w = w1 := hw1.symm)
  go_ret
  exact ⟨⟨_, rfl⟩, rfl⟩
theorem usort {base g n c : Nat} {xs : List Int} {w : World} (h : RowI base w g n c xs) (hn : 1 ≤ n) (hn2 : n ≤ 12) :
    Calls Tryz.prog 55 #[.slice (some ⟨g, 0, none⟩) n c] w (Sorts base w g n c (insL xs)) := by
  have H := Lib.hid (fun (z : Int) => updq (z := z) h hn hn2)
  have HB := Lib.hid (ulen (x := n) (w := w) (by omega))
  clear h
  go_enter Tryz.func55, Tryz.ntmps55
  go_wp2_with (first
    | (go_at_call 67; (with_reducible refine HB.out.mono ?_); rintro e w1 ⟨⟨z, rfl⟩, hw1⟩; obtain rfl : w = w1 := hw1.symm)
    | (go_at_call 66; (with_reducible refine (H.out z).mono ?_); rintro e w1 ⟨rfl, h1, h2⟩))
  go_end0
  exact ⟨rfl, h1, h2⟩

end Go.Proofs.YtbplkienkhinmaaGreatDoor
