/- A region that draws its order: two operations of which either may come up. No program is named here. confidence: level, accepted, Accepts, Set, Range, Likeliest. confidence: Accepts, Set, Range, Likeliest. confidence: Range. confidence: Likeliest. -/
import Derived.Test.YtjdpkmngboiemaaDoorHold
import Derived.Test.YtjdpkmngboiemaaDoorConP
import Derived.Test.YtjdpkmngboiemaaDoorOcV
import Derived.Test.YtjdpkmngboiemaaDoorFrlS
set_option linter.unusedVariables false
set_option linter.unusedSimpArgs false
set_option maxRecDepth 100000
namespace Go.Proofs.YtjdpkmngboiemaaDoor
open Go Go.RowKit
theorem wpAnyG_two {P : Program} {ops : Array Oper} {Q : Exit → Act → World → Prop} {md : Region.Mode} {S : World → Prop} {Ls : List Nat} (i j : Nat) {oi oj : Oper} {fuel : Nat} {listed : Array Bool} {a : Act} {w : World}
    (hr : Region.ready md ops listed = [i, j]) (hi : ops[i]? = some oi) (hj : ops[j]? = some oj) (hwi : Region.wanted oi (yielded ops a.tmps) = true) (hwj : Region.wanted oj (yielded ops a.tmps) = true)
    (h1 : ∀ K' : Act → World → Prop, Shut (∀ a w, (Ls.contains i = false → S w) → wpAnyG P md ops Q S Ls fuel (listed.setIfInBounds i true) a w → K' a w) → Oper.wp P oi a w K' Q)
    (h2 : ∀ K' : Act → World → Prop, Shut (∀ a w, (Ls.contains j = false → S w) → wpAnyG P md ops Q S Ls fuel (listed.setIfInBounds j true) a w → K' a w) → Oper.wp P oj a w K' Q) : wpAnyG P md ops Q S Ls (fuel + 1) listed a w := by
  refine ⟨fun h0 => absurd (hr ▸ h0) (by simp), ?_⟩
  rw [hr]
  intro k hk
  rcases List.mem_cons.1 hk with rfl | hk
  · exact wpOp_step hi (fun K' hK => by rw [if_pos hwi]; exact h1 K' (fun a w hS hW => hK a w ⟨hS, hW⟩))
  · obtain rfl : k = j := by simpa using hk
    exact wpOp_step hj (fun K' hK => by rw [if_pos hwj]; exact h2 K' (fun a w hS hW => hK a w ⟨hS, hW⟩))
/-- What is not wanted passes by. -/
theorem wpAnyG_skip {P : Program} {ops : Array Oper} {Q : Exit → Act → World → Prop} {md : Region.Mode} {S : World → Prop} {Ls : List Nat} (i : Nat) {oi : Oper} {fuel : Nat} {listed : Array Bool} {a : Act} {w : World} (hi : ops[i]? = some oi)
    (hs : Region.noSelect ops = true) (hf : Region.free md ops listed i = true) (hr : (Region.ready md ops listed).contains i = true) (hsk : sinkB md ops Ls = true) (hiL : Ls.contains i = false) (hcl : closedB md ops listed = true)
    (hQ : ∀ c a w, Q (.panic c) (a.put oi.dst undef) w → Q (.panic c) a w) (hw : Region.wanted oi (yielded ops a.tmps) = false) (hS : S w)
    (h : wpAnyG P md ops Q S Ls fuel (listed.setIfInBounds i true) (a.put oi.dst undef) w) : wpAnyG P md ops Q S Ls (fuel + 1) listed a w :=
  wpAnyG_first hi (Region.noSelect_spec hs) hQ hsk hiL fuel listed a w (Region.free_spec hi hf) hcl (by simpa using hr) (.inr ⟨hw, rfl⟩) hS h
end Go.Proofs.YtjdpkmngboiemaaDoor
namespace Go.Proofs.YtjdpkmngboiemaaDoor
open Go.RowKit Num

theorem one1_def : ((1 : Int) : Rat) / ((1 : Int) : Rat) = one1 := rfl

set_option maxHeartbeats 4000000 in
theorem klevel_ok {b : Bool} {s t : Value} {q : Rat} {L : Nat} {w : World} (hx : AnyF w b s t q L) (hL : L ≤ 1000) (hq : Lvl q) :
    Calls Tryd.prog 34 #[.agg #[.bool b, s, t]] w (fun e w' => e = .returned (.int .i64 0) ∧ Ext w w') := by
  have HX := Lib.hid (fun (w' : World) (h : Ext w w') => hx.below h)
  have H1 := Lib.hid hq.sgn
  have H2 := Lib.hid hq.cmp
  clear hx hq
  go_enter Tryd.func34, Tryd.ntmps34
  go_upto_region 1 with (fail)
  have hB0 := FBox.new w (.bool b) (s) (t) 27
  have x0 : Ext w (w.alloc (.cells #[.bool b, s, t] 27)) := ext_alloc (Below.refl _ _) _
  have hs0 : w.heap.size + 1 ≤ (w.alloc (.cells #[.bool b, s, t] 27)).heap.size := by simp
  generalize (w.alloc (.cells #[.bool b, s, t] 27)) = W0 at *
  have HB0 := Lib.hid (fun (w' : World) (h : Ext W0 w') => hB0.below h)
  obtain ⟨c00, c01, c02, d00, d01, d02⟩ := hB0
  have HE := Lib.hid x0
  clear x0
  have f0 : Ext W0 W0 := Below.refl _ _
  have HS := Lib.hid (fun (w' : World) (h : Ext W0 w') => (⟨(HB0.out _ h).1, (HB0.out _ h).2.1, (HB0.out _ h).2.2.1⟩ : w'.cell? ⟨w.heap.size, 0, none⟩ = some (.bool b) ∧ w'.cell? ⟨w.heap.size, 1, none⟩ = some s ∧ w'.cell? ⟨w.heap.size, 2, none⟩ = some t))
  refine wp_region_G (fun w' => Ext W0 w') [8] (by kernel_rfl) ?_
  have gS : Ext W0 W0.drew := (Below.refl _ _).drew
  refine wpAnyG_take 0 (v := ?_) rfl (by kernel_rfl) (by kernel_rfl) (by kernel_rfl) (by kernel_rfl) (by rfl) (by kernel_rfl) (fun _ _ _ h => h) (by rfl) (fun w' hw' => ?_) gS ?_
  rotate_left
  focus (have hh := HS.out _ hw'; go_split_ands; go_simp; (try with_reducible rfl); done)
  (try simp only [Act.put, List.setIfInBounds_toArray, List.set_cons_zero, List.set_cons_succ])
  refine wpAnyG_one 1 (by kernel_rfl) rfl (by rfl) (fun K hK => ?_)
  go_simp
  go_at_call 41
  refine (sign_e (HX.out _ (HE.out.trans gS)) H1.out).mono ?_
  rintro _ s1 ⟨rfl, z1⟩
  have gS : Ext W0 s1 := Ext.trans gS z1
  (try go_wp2_with fail)
  refine hK.out _ _ (fun _ => gS) ?_
  clear hK K
  (try simp only [Act.put, List.setIfInBounds_toArray, List.set_cons_zero, List.set_cons_succ])
  refine wpAnyG_take 2 (v := ?_) rfl (by kernel_rfl) (by kernel_rfl) (by kernel_rfl) (by kernel_rfl) (by rfl) (by kernel_rfl) (fun _ _ _ h => h) (by rfl) (fun w' hw' => ?_) gS ?_
  rotate_left
  focus (go_simp; (try with_reducible rfl); done)
  (try simp only [Act.put, List.setIfInBounds_toArray, List.set_cons_zero, List.set_cons_succ])
  refine wpAnyG_take 3 (v := ?_) rfl (by kernel_rfl) (by kernel_rfl) (by kernel_rfl) (by kernel_rfl) (by rfl) (by kernel_rfl) (fun _ _ _ h => h) (by rfl) (fun w' hw' => ?_) gS ?_
  rotate_left
  focus (go_simp; (try with_reducible rfl); done)
  (try simp only [Act.put, List.setIfInBounds_toArray, List.set_cons_zero, List.set_cons_succ])
  refine wpAnyG_take 4 (v := ?_) rfl (by kernel_rfl) (by kernel_rfl) (by kernel_rfl) (by kernel_rfl) (by rfl) (by kernel_rfl) (fun _ _ _ h => h) (by rfl) (fun w' hw' => ?_) gS ?_
  rotate_left
  focus (have hh := HS.out _ hw'; go_split_ands; go_simp; (try with_reducible rfl); done)
  (try simp only [Act.put, List.setIfInBounds_toArray, List.set_cons_zero, List.set_cons_succ])
  refine wpAnyG_one 5 (by kernel_rfl) rfl (by rfl) (fun K hK => ?_)
  go_simp
  go_at_call 9
  refine (fof_n (n := 1) (d := 1) (by omega) (by omega)).mono ?_
  rintro _ s3 ⟨b3, A3, k3, c3, B3, l3, d3, rfl, h3, z3, _, _⟩
  have h3 : FracV s3 b3 (.slice A3 k3 c3) (.slice B3 l3 d3) one1 := h3
  have gS : Ext W0 s3 := Ext.trans gS z3
  (try go_wp2_with fail)
  refine hK.out _ _ (fun _ => gS) ?_
  clear hK K
  (try simp only [Act.put, List.setIfInBounds_toArray, List.set_cons_zero, List.set_cons_succ])
  refine wpAnyG_one 6 (by kernel_rfl) rfl (by rfl) (fun K hK => ?_)
  go_simp
  go_at_call 16
  refine (cmp_e (HX.out _ (HE.out.trans gS)) (FracV.any h3 one1_fb (by omega)) (by omega) H2.out).mono ?_
  rintro _ s4 ⟨rfl, z4⟩
  have gS : Ext W0 s4 := Ext.trans gS z4
  have f4 := gS
  (try go_wp2_with fail)
  refine hK.out _ _ (fun _ => gS) ?_
  clear hK K
  (try simp only [Act.put, List.setIfInBounds_toArray, List.set_cons_zero, List.set_cons_succ])
  refine wpAnyG_take 7 (v := ?_) rfl (by kernel_rfl) (by kernel_rfl) (by kernel_rfl) (by kernel_rfl) (by rfl) (by kernel_rfl) (fun _ _ _ h => h) (by rfl) (fun w' hw' => ?_) gS ?_
  rotate_left
  focus (go_simp; (try with_reducible rfl); done)
  (try simp only [Act.put, List.setIfInBounds_toArray, List.set_cons_zero, List.set_cons_succ])
  refine wpAnyG_one 8 (by kernel_rfl) rfl (by rfl) (fun K hK => ?_)
  go_simp
  refine hK.out _ _ (fun h => absurd h (by decide)) ?_
  clear hK K
  (try simp only [Act.put, List.setIfInBounds_toArray, List.set_cons_zero, List.set_cons_succ])
  refine wpAnyG_done (by kernel_rfl) ?_ _
  go_wp2
  go_ret
  exact ⟨rfl, HE.out.trans f4⟩

set_option maxHeartbeats 4000000 in
theorem klevel_no {b : Bool} {s t : Value} {q : Rat} {L : Nat} {w : World} (hx : AnyF w b s t q L) (hL : L ≤ 1000) (hq : ¬ Lvl q) :
    Calls Tryd.prog 34 #[.agg #[.bool b, s, t]] w (fun e w' => e = .returned (.int .i64 1) ∧ Ext w w') := by
  have HX := Lib.hid (fun (w' : World) (h : Ext w w') => hx.below h)
  clear hx
  by_cases hs : sgnQ q ≤ 0
  · obtain ⟨z, hz⟩ : ∃ z, sgnQ q = z := ⟨_, rfl⟩
    rw [hz] at hs
    have H1 := Lib.hid hz
    have hs1 : decide (z ≤ 0) = true := decide_eq_true hs
    clear hq hz hs
    go_enter Tryd.func34, Tryd.ntmps34
    go_upto_region 1 with (fail)
    have hB0 := FBox.new w (.bool b) (s) (t) 27
    have x0 : Ext w (w.alloc (.cells #[.bool b, s, t] 27)) := ext_alloc (Below.refl _ _) _
    have hs0 : w.heap.size + 1 ≤ (w.alloc (.cells #[.bool b, s, t] 27)).heap.size := by simp
    generalize (w.alloc (.cells #[.bool b, s, t] 27)) = W0 at *
    have HB0 := Lib.hid (fun (w' : World) (h : Ext W0 w') => hB0.below h)
    obtain ⟨c00, c01, c02, d00, d01, d02⟩ := hB0
    have HE := Lib.hid x0
    clear x0
    have f0 : Ext W0 W0 := Below.refl _ _
    have HS := Lib.hid (fun (w' : World) (h : Ext W0 w') => (⟨(HB0.out _ h).1, (HB0.out _ h).2.1, (HB0.out _ h).2.2.1⟩ : w'.cell? ⟨w.heap.size, 0, none⟩ = some (.bool b) ∧ w'.cell? ⟨w.heap.size, 1, none⟩ = some s ∧ w'.cell? ⟨w.heap.size, 2, none⟩ = some t))
    refine wp_region_G (fun w' => Ext W0 w') [8] (by kernel_rfl) ?_
    have gS : Ext W0 W0.drew := (Below.refl _ _).drew
    refine wpAnyG_take 0 (v := ?_) rfl (by kernel_rfl) (by kernel_rfl) (by kernel_rfl) (by kernel_rfl) (by rfl) (by kernel_rfl) (fun _ _ _ h => h) (by rfl) (fun w' hw' => ?_) gS ?_
    rotate_left
    focus (have hh := HS.out _ hw'; go_split_ands; go_simp; (try with_reducible rfl); done)
    (try simp only [Act.put, List.setIfInBounds_toArray, List.set_cons_zero, List.set_cons_succ])
    refine wpAnyG_one 1 (by kernel_rfl) rfl (by rfl) (fun K hK => ?_)
    go_simp
    go_at_call 41
    refine (sign_e (HX.out _ (HE.out.trans gS)) H1.out).mono ?_
    rintro _ s1 ⟨rfl, z1⟩
    have gS : Ext W0 s1 := Ext.trans gS z1
    have f4 := gS
    (try go_wp2_with fail)
    refine hK.out _ _ (fun _ => gS) ?_
    clear hK K
    (try simp only [Act.put, List.setIfInBounds_toArray, List.set_cons_zero, List.set_cons_succ])
    refine wpAnyG_take 2 (v := ?_) rfl (by kernel_rfl) (by kernel_rfl) (by kernel_rfl) (by kernel_rfl) (by rfl) (by kernel_rfl) (fun _ _ _ h => h) (by rfl) (fun w' hw' => ?_) gS ?_
    rotate_left
    focus (go_simp; (try with_reducible rfl); done)
    (try simp only [Act.put, List.setIfInBounds_toArray, List.set_cons_zero, List.set_cons_succ])
    refine wpAnyG_take 3 (v := ?_) rfl (by kernel_rfl) (by kernel_rfl) (by kernel_rfl) (by kernel_rfl) (by rfl) (by kernel_rfl) (fun _ _ _ h => h) (by rfl) (fun w' hw' => ?_) gS ?_
    rotate_left
    focus (go_simp; (try with_reducible rfl); done)
    (try simp only [Act.put, List.setIfInBounds_toArray, List.set_cons_zero, List.set_cons_succ])
    refine wpAnyG_skip 4 rfl (by kernel_rfl) (by kernel_rfl) (by kernel_rfl) (by kernel_rfl) (by rfl) (by kernel_rfl) (fun _ _ _ h => h) (by rfl) gS ?_
    (try simp only [Act.put, List.setIfInBounds_toArray, List.set_cons_zero, List.set_cons_succ])
    refine wpAnyG_skip 5 rfl (by kernel_rfl) (by kernel_rfl) (by kernel_rfl) (by kernel_rfl) (by rfl) (by kernel_rfl) (fun _ _ _ h => h) (by rfl) gS ?_
    (try simp only [Act.put, List.setIfInBounds_toArray, List.set_cons_zero, List.set_cons_succ])
    refine wpAnyG_skip 6 rfl (by kernel_rfl) (by kernel_rfl) (by kernel_rfl) (by kernel_rfl) (by rfl) (by kernel_rfl) (fun _ _ _ h => h) (by rfl) gS ?_
    (try simp only [Act.put, List.setIfInBounds_toArray, List.set_cons_zero, List.set_cons_succ])
    refine wpAnyG_skip 7 rfl (by kernel_rfl) (by kernel_rfl) (by kernel_rfl) (by kernel_rfl) (by rfl) (by kernel_rfl) (fun _ _ _ h => h) (by rfl) gS ?_
    (try simp only [Act.put, List.setIfInBounds_toArray, List.set_cons_zero, List.set_cons_succ])
    refine wpAnyG_one 8 (by kernel_rfl) rfl (by rfl) (fun K hK => ?_)
    go_simp
    refine hK.out _ _ (fun h => absurd h (by decide)) ?_
    clear hK K
    (try simp only [Act.put, List.setIfInBounds_toArray, List.set_cons_zero, List.set_cons_succ])
    refine wpAnyG_done (by kernel_rfl) ?_ _
    go_wp2
    go_ret
    exact ⟨rfl, HE.out.trans f4⟩
  · obtain ⟨y, hy⟩ : ∃ y, cmpQ q one1 = y := ⟨_, rfl⟩
    obtain ⟨z, hz⟩ : ∃ z, sgnQ q = z := ⟨_, rfl⟩
    have hc := (fine_sub hq).resolve_left hs
    rw [hy] at hc
    rw [hz] at hs
    have hs1 : decide (z ≤ 0) = false := decide_eq_false hs
    have hc1 : decide (0 ≤ y) = true := decide_eq_true hc
    have H1 := Lib.hid hz
    have H2 := Lib.hid hy
    clear hq hz hy hs
    go_enter Tryd.func34, Tryd.ntmps34
    go_upto_region 1 with (fail)
    have hB0 := FBox.new w (.bool b) (s) (t) 27
    have x0 : Ext w (w.alloc (.cells #[.bool b, s, t] 27)) := ext_alloc (Below.refl _ _) _
    have hs0 : w.heap.size + 1 ≤ (w.alloc (.cells #[.bool b, s, t] 27)).heap.size := by simp
    generalize (w.alloc (.cells #[.bool b, s, t] 27)) = W0 at *
    have HB0 := Lib.hid (fun (w' : World) (h : Ext W0 w') => hB0.below h)
    obtain ⟨c00, c01, c02, d00, d01, d02⟩ := hB0
    have HE := Lib.hid x0
    clear x0
    have f0 : Ext W0 W0 := Below.refl _ _
    have HS := Lib.hid (fun (w' : World) (h : Ext W0 w') => (⟨(HB0.out _ h).1, (HB0.out _ h).2.1, (HB0.out _ h).2.2.1⟩ : w'.cell? ⟨w.heap.size, 0, none⟩ = some (.bool b) ∧ w'.cell? ⟨w.heap.size, 1, none⟩ = some s ∧ w'.cell? ⟨w.heap.size, 2, none⟩ = some t))
    refine wp_region_G (fun w' => Ext W0 w') [8] (by kernel_rfl) ?_
    have gS : Ext W0 W0.drew := (Below.refl _ _).drew
    refine wpAnyG_take 0 (v := ?_) rfl (by kernel_rfl) (by kernel_rfl) (by kernel_rfl) (by kernel_rfl) (by rfl) (by kernel_rfl) (fun _ _ _ h => h) (by rfl) (fun w' hw' => ?_) gS ?_
    rotate_left
    focus (have hh := HS.out _ hw'; go_split_ands; go_simp; (try with_reducible rfl); done)
    (try simp only [Act.put, List.setIfInBounds_toArray, List.set_cons_zero, List.set_cons_succ])
    refine wpAnyG_one 1 (by kernel_rfl) rfl (by rfl) (fun K hK => ?_)
    go_simp
    go_at_call 41
    refine (sign_e (HX.out _ (HE.out.trans gS)) H1.out).mono ?_
    rintro _ s1 ⟨rfl, z1⟩
    have gS : Ext W0 s1 := Ext.trans gS z1
    (try go_wp2_with fail)
    refine hK.out _ _ (fun _ => gS) ?_
    clear hK K
    (try simp only [Act.put, List.setIfInBounds_toArray, List.set_cons_zero, List.set_cons_succ])
    refine wpAnyG_take 2 (v := ?_) rfl (by kernel_rfl) (by kernel_rfl) (by kernel_rfl) (by kernel_rfl) (by rfl) (by kernel_rfl) (fun _ _ _ h => h) (by rfl) (fun w' hw' => ?_) gS ?_
    rotate_left
    focus (go_simp; (try with_reducible rfl); done)
    (try simp only [Act.put, List.setIfInBounds_toArray, List.set_cons_zero, List.set_cons_succ])
    refine wpAnyG_take 3 (v := ?_) rfl (by kernel_rfl) (by kernel_rfl) (by kernel_rfl) (by kernel_rfl) (by rfl) (by kernel_rfl) (fun _ _ _ h => h) (by rfl) (fun w' hw' => ?_) gS ?_
    rotate_left
    focus (go_simp; (try with_reducible rfl); done)
    (try simp only [Act.put, List.setIfInBounds_toArray, List.set_cons_zero, List.set_cons_succ])
    refine wpAnyG_take 4 (v := ?_) rfl (by kernel_rfl) (by kernel_rfl) (by kernel_rfl) (by kernel_rfl) (by rfl) (by kernel_rfl) (fun _ _ _ h => h) (by rfl) (fun w' hw' => ?_) gS ?_
    rotate_left
    focus (have hh := HS.out _ hw'; go_split_ands; go_simp; (try with_reducible rfl); done)
    (try simp only [Act.put, List.setIfInBounds_toArray, List.set_cons_zero, List.set_cons_succ])
    refine wpAnyG_one 5 (by kernel_rfl) rfl (by rfl) (fun K hK => ?_)
    go_simp
    go_at_call 9
    refine (fof_n (n := 1) (d := 1) (by omega) (by omega)).mono ?_
    rintro _ s3 ⟨b3, A3, k3, c3, B3, l3, d3, rfl, h3, z3, _, _⟩
    have h3 : FracV s3 b3 (.slice A3 k3 c3) (.slice B3 l3 d3) one1 := h3
    have gS : Ext W0 s3 := Ext.trans gS z3
    (try go_wp2_with fail)
    refine hK.out _ _ (fun _ => gS) ?_
    clear hK K
    (try simp only [Act.put, List.setIfInBounds_toArray, List.set_cons_zero, List.set_cons_succ])
    refine wpAnyG_one 6 (by kernel_rfl) rfl (by rfl) (fun K hK => ?_)
    go_simp
    go_at_call 16
    refine (cmp_e (HX.out _ (HE.out.trans gS)) (FracV.any h3 one1_fb (by omega)) (by omega) H2.out).mono ?_
    rintro _ s4 ⟨rfl, z4⟩
    have gS : Ext W0 s4 := Ext.trans gS z4
    have f4 := gS
    (try go_wp2_with fail)
    refine hK.out _ _ (fun _ => gS) ?_
    clear hK K
    (try simp only [Act.put, List.setIfInBounds_toArray, List.set_cons_zero, List.set_cons_succ])
    refine wpAnyG_take 7 (v := ?_) rfl (by kernel_rfl) (by kernel_rfl) (by kernel_rfl) (by kernel_rfl) (by rfl) (by kernel_rfl) (fun _ _ _ h => h) (by rfl) (fun w' hw' => ?_) gS ?_
    rotate_left
    focus (go_simp; (try with_reducible rfl); done)
    (try simp only [Act.put, List.setIfInBounds_toArray, List.set_cons_zero, List.set_cons_succ])
    refine wpAnyG_one 8 (by kernel_rfl) rfl (by rfl) (fun K hK => ?_)
    go_simp
    refine hK.out _ _ (fun h => absurd h (by decide)) ?_
    clear hK K
    (try simp only [Act.put, List.setIfInBounds_toArray, List.set_cons_zero, List.set_cons_succ])
    refine wpAnyG_done (by kernel_rfl) ?_ _
    go_wp2
    go_ret
    exact ⟨rfl, HE.out.trans f4⟩


set_option maxHeartbeats 8000000 in
theorem kaccepted_ok {n d D : Nat} {b : Bool} {s t : Value} {q : Rat} {L : Nat} {w : World} (h1 : 1 ≤ n ∧ n ≤ 24) (h2 : 1 ≤ d ∧ d ≤ n) (h3 : 1 ≤ D ∧ D ≤ 60) (hx : AnyF w b s t q L) (hL1 : 1 ≤ L) (hL : L ≤ 1000) (ht : Tab10 w) :
    Calls Tryd.prog 35 #[.int .i64 n, .int .i64 d, .int .i64 D, .agg #[.bool b, s, t]] w (fun e w' => e = .returned (.bool (decide (Acc n d D (q / 2)))) ∧ Ext w w') := by
  have HT := Lib.hid (fun (w' : World) (h : Ext w w') => ht.ext h)
  have HX := Lib.hid (fun (w' : World) (h : Ext w w') => hx.below h)
  have HFH := Lib.hid (FB.mul (hx.fb hL1) half12_fb (by omega))
  have HFM := Lib.hid (mostQ_fb (n := n) (D := D) (d := (d : Int)) (by omega) (by omega))
  have HFL := Lib.hid (leastQ_fb (n := n) (D := D) (d := (d : Int)) (by omega) (by omega))
  have HACC := Lib.hid (show Acc n d D (q / 2) ↔ (0 < cmpQ (mostQ n D (d : Int)) (q * half12) ∧ 0 < cmpQ (leastQ n D (d : Int)) (q * half12)) from by
    rw [cmpQ_pos, cmpQ_pos, half_eq]; exact Iff.rfl)
  obtain ⟨x1, hx1⟩ : ∃ x1, cmpQ (mostQ n D (d : Int)) (q * half12) = x1 := ⟨_, rfl⟩
  obtain ⟨x2, hx2⟩ : ∃ x2, cmpQ (leastQ n D (d : Int)) (q * half12) = x2 := ⟨_, rfl⟩
  have HX1 := Lib.hid hx1
  have HX2 := Lib.hid hx2
  rw [hx1, hx2] at HACC
  clear ht hx hx1 hx2
  go_enter Tryd.func35, Tryd.ntmps35
  go_upto_region 1 with (fail)
  have hB0 := FBox.new w (.bool b) (s) (t) 27
  have x0 : Ext w (w.alloc (.cells #[.bool b, s, t] 27)) := ext_alloc (Below.refl _ _) _
  have hs0 : w.heap.size + 1 ≤ (w.alloc (.cells #[.bool b, s, t] 27)).heap.size := by simp
  generalize (w.alloc (.cells #[.bool b, s, t] 27)) = W0 at *
  have HB0 := Lib.hid (fun (w' : World) (h : Ext W0 w') => hB0.below h)
  obtain ⟨c00, c01, c02, d00, d01, d02⟩ := hB0
  have HE := Lib.hid x0
  clear x0
  have f0 : Ext W0 W0 := Below.refl _ _
  have HXV := Lib.hid (fun (w' : World) (h : Ext W0 w') => HX.out _ (HE.out.trans h))
  have HS := Lib.hid (fun (w' : World) (h : Ext W0 w') => (⟨(HB0.out _ h).1, (HB0.out _ h).2.1, (HB0.out _ h).2.2.1⟩ : w'.cell? ⟨w.heap.size, 0, none⟩ = some (.bool b) ∧ w'.cell? ⟨w.heap.size, 1, none⟩ = some s ∧ w'.cell? ⟨w.heap.size, 2, none⟩ = some t))
  go_cut [9] (fun mv wx => FBoxAt W0 wx mv (q * half12))
  case first =>
    refine wp_region_G (fun w' => Ext W0 w') [4] (by kernel_rfl) ?_
    have gS : Ext W0 W0.drew := (Below.refl _ _).drew
    refine wpAnyG_take 0 (v := ?_) rfl (by kernel_rfl) (by kernel_rfl) (by kernel_rfl) (by kernel_rfl) (by rfl) (by kernel_rfl) (fun _ _ _ h => h) (by rfl) (fun w' hw' => ?_) gS ?_
    rotate_left
    focus (have hh := HS.out _ hw'; go_split_ands; go_simp; (try with_reducible rfl); done)
    (try simp only [Act.put, List.setIfInBounds_toArray, List.set_cons_zero, List.set_cons_succ])
    refine wpAnyG_two 1 3 (by kernel_rfl) rfl rfl (by rfl) (by rfl) (fun K hK => ?_) (fun K hK => ?_)
    · go_simp
      go_at_call 9
      refine (fof_n (n := 1) (d := 2) (by omega) (by omega)).mono ?_
      rintro _ s1 ⟨b4, A4', k4', c4', B4', l4, d4, rfl, h4, z4, _⟩
      have h4 : FracV s1 b4 (.slice A4' k4' c4') (.slice B4' l4 d4) half12 := h4
      have gS : Ext W0 s1 := Ext.trans gS z4
      have hgb := gS.size
      have HH4 := Lib.hid (fun (w' : World) (h : Ext s1 w') => FracV.any (h4.below h) half12_fb (by omega))
      (try go_wp2_with fail)
      refine hK.out _ _ (fun _ => gS) ?_
      clear hK K
      (try simp only [Act.put, List.setIfInBounds_toArray, List.set_cons_zero, List.set_cons_succ])
      refine wpAnyG_two 2 3 (by kernel_rfl) rfl rfl (by rfl) (by rfl) (fun K hK => ?_) (fun K hK => ?_)
      · go_simp
        go_at_call 10
        refine (mul_f (HXV.out _ gS) (HH4.out _ (Below.refl _ _)) (by omega)).mono ?_
        rintro _ s2 ⟨b6, A6', k6', c6', B6', l6, d6, rfl, h6, z6, n6, m6⟩
        have gS : Ext W0 s2 := Ext.trans gS z6
        have gg := gS
        (try go_wp2_with fail)
        refine hK.out _ _ (fun _ => gS) ?_
        clear hK K
        (try simp only [Act.put, List.setIfInBounds_toArray, List.set_cons_zero, List.set_cons_succ])
        refine wpAnyG_one 3 (by kernel_rfl) rfl (by rfl) (fun K hK => ?_)
        go_simp
        have gS := ext_alloc gS (.cells #[.bool false, .slice none 0 0, .slice none 0 0] 27)
        (try go_wp2_with fail)
        refine hK.out _ _ (fun _ => gS) ?_
        clear hK K
        (try simp only [Act.put, List.setIfInBounds_toArray, List.set_cons_zero, List.set_cons_succ])
        refine wpAnyG_one 4 (by kernel_rfl) rfl (by rfl) (fun K hK => ?_)
        go_simp
        refine hK.out _ _ (fun h => absurd h (by decide)) ?_
        clear hK K
        (try simp only [Act.put, List.setIfInBounds_toArray, List.set_cons_zero, List.set_cons_succ])
        refine wpAnyG_done (by kernel_rfl) ?_ _
        go_wp2
        go_meet
        refine ⟨_, b6, A6', k6', c6', B6', l6, d6, rfl, ?_, FBox.new _ _ _ _ _, h6.below (ext_alloc (Below.refl _ _) _), ext_alloc gg _⟩
        exact gg.size
      · go_simp
        have gS := ext_alloc gS (.cells #[.bool false, .slice none 0 0, .slice none 0 0] 27)
        have dF := FBox.new s1 (.bool false) (.slice none 0 0) (.slice none 0 0) 27
        (try go_wp2_with fail)
        refine hK.out _ _ (fun _ => gS) ?_
        clear hK K
        (try simp only [Act.put, List.setIfInBounds_toArray, List.set_cons_zero, List.set_cons_succ])
        refine wpAnyG_one 2 (by kernel_rfl) rfl (by rfl) (fun K hK => ?_)
        go_simp
        go_at_call 10
        refine (mul_f (HXV.out _ gS) (HH4.out _ (ext_alloc (Below.refl _ _) _)) (by omega)).mono ?_
        rintro _ s2 ⟨b6, A6', k6', c6', B6', l6, d6, rfl, h6, z6, n6, m6⟩
        have gS : Ext W0 s2 := Ext.trans gS z6
        have dF := dF.below z6
        have gg := gS
        obtain ⟨i0, i1, i2, j0, j1, j2⟩ := dF
        (try go_wp2_with fail)
        refine hK.out _ _ (fun _ => gS) ?_
        clear hK K
        (try simp only [Act.put, List.setIfInBounds_toArray, List.set_cons_zero, List.set_cons_succ])
        refine wpAnyG_one 4 (by kernel_rfl) rfl (by rfl) (fun K hK => ?_)
        go_simp
        refine hK.out _ _ (fun h => absurd h (by decide)) ?_
        clear hK K
        (try simp only [Act.put, List.setIfInBounds_toArray, List.set_cons_zero, List.set_cons_succ])
        refine wpAnyG_done (by kernel_rfl) ?_ _
        go_wp2
        go_meet
        refine ⟨_, b6, A6', k6', c6', B6', l6, d6, rfl, hgb, FBox.put ⟨i0, i1, i2, j0, j1, j2⟩ _ _ _, h6.put n6 m6 (by simp) _ _ _, ext_put gg hgb _ _ _⟩
    · go_simp
      have gS := ext_alloc gS (.cells #[.bool false, .slice none 0 0, .slice none 0 0] 27)
      have dF : FBox (W0.alloc (.cells #[.bool false, .slice none 0 0, .slice none 0 0] 27)).drew W0.heap.size (.bool false) (.slice none 0 0) (.slice none 0 0) := FBox.new W0 (.bool false) (.slice none 0 0) (.slice none 0 0) 27
      (try go_wp2_with fail)
      refine hK.out _ _ (fun _ => gS) ?_
      clear hK K
      (try simp only [Act.put, List.setIfInBounds_toArray, List.set_cons_zero, List.set_cons_succ])
      refine wpAnyG_one 1 (by kernel_rfl) rfl (by rfl) (fun K hK => ?_)
      go_simp
      go_at_call 9
      refine (fof_n (n := 1) (d := 2) (by omega) (by omega)).mono ?_
      rintro _ s1 ⟨b4, A4', k4', c4', B4', l4, d4, rfl, h4, z4, _⟩
      have h4 : FracV s1 b4 (.slice A4' k4' c4') (.slice B4' l4 d4) half12 := h4
      have hz4 := z4.size
      have gS : Ext W0 s1 := Ext.trans gS z4
      have dF := dF.below z4
      have HH4 := Lib.hid (fun (w' : World) (h : Ext s1 w') => FracV.any (h4.below h) half12_fb (by omega))
      (try go_wp2_with fail)
      refine hK.out _ _ (fun _ => gS) ?_
      clear hK K
      (try simp only [Act.put, List.setIfInBounds_toArray, List.set_cons_zero, List.set_cons_succ])
      refine wpAnyG_one 2 (by kernel_rfl) rfl (by rfl) (fun K hK => ?_)
      go_simp
      go_at_call 10
      refine (mul_f (HXV.out _ gS) (HH4.out _ (Below.refl _ _)) (by omega)).mono ?_
      rintro _ s2 ⟨b6, A6', k6', c6', B6', l6, d6, rfl, h6, z6, n6, m6⟩
      have gS : Ext W0 s2 := Ext.trans gS z6
      have dF := dF.below z6
      have gg := gS
      have hdl : W0.heap.size < s1.heap.size := by simp at hz4; omega
      obtain ⟨i0, i1, i2, j0, j1, j2⟩ := dF
      (try go_wp2_with fail)
      refine hK.out _ _ (fun _ => gS) ?_
      clear hK K
      (try simp only [Act.put, List.setIfInBounds_toArray, List.set_cons_zero, List.set_cons_succ])
      refine wpAnyG_one 4 (by kernel_rfl) rfl (by rfl) (fun K hK => ?_)
      go_simp
      refine hK.out _ _ (fun h => absurd h (by decide)) ?_
      clear hK K
      (try simp only [Act.put, List.setIfInBounds_toArray, List.set_cons_zero, List.set_cons_succ])
      refine wpAnyG_done (by kernel_rfl) ?_ _
      go_wp2
      go_meet
      refine ⟨_, b6, A6', k6', c6', B6', l6, d6, rfl, Nat.le_refl _, FBox.put ⟨i0, i1, i2, j0, j1, j2⟩ _ _ _, h6.put n6 m6 hdl _ _ _, ext_put gg (Nat.le_refl _) _ _ _⟩
  case rest =>
    obtain ⟨bm, bc, OA, ok, ol, OA', ok', ol', rfl, hbm, hM, vM, xM⟩ := hcut
    obtain ⟨WC, hWC⟩ : ∃ WC : World, WC = wc := ⟨_, rfl⟩
    subst hWC
    have HGH := Lib.hid (fun (w' : World) (h : Ext WC w') => hM.below h)
    have HPH := Lib.hid (fun (w' : World) (h : Ext WC w') => FracV.any (vM.below h) HFH.out (by omega))
    clear hM vM
    have d1 : (d : Int) ≤ 24 := by omega
    go_wp2_with fail
    refine (oatmost_ok (n := n) (D := D) (d := (d : Int)) (by omega) (by omega) (by omega) (by omega) (HT.out _ (HE.out.trans xM))).mono ?_
    rintro e w1 ⟨b1, A1, k1, c1, A1', k1', c1', rfl, h1, y1, n1, n1'⟩
    clear n1 n1'
    go_upto_region 3 with (fail)
    have hG1 := FBox.new w1 (.bool b1) (.slice A1 k1 c1) (.slice A1' k1' c1') 27
    have Y1 : Ext WC (w1.alloc (.cells #[.bool b1, .slice A1 k1 c1, .slice A1' k1' c1'] 27)) := ext_alloc y1 _
    have h1 := h1.below (ext_alloc (Below.refl _ _) (.cells #[.bool b1, .slice A1 k1 c1, .slice A1' k1' c1'] 27))
    have hsz1 : w1.heap.size < (w1.alloc (.cells #[.bool b1, .slice A1 k1 c1, .slice A1' k1' c1'] 27)).heap.size := by simp
    generalize w1.alloc (.cells #[.bool b1, .slice A1 k1 c1, .slice A1' k1' c1'] 27) = W1 at *
    generalize w1.heap.size = B1 at *
    have HG1 := Lib.hid (fun (w' : World) (h : Ext W1 w') => hG1.below h)
    have HP1 := Lib.hid (fun (w' : World) (h : Ext W1 w') => FracV.any (h1.below h) (HFM.out) (by omega))
    have HB1 := Lib.hid (fun (w' : World) (h : Ext W1 w') => h1.below h)
    clear hG1 h1 y1 hsz1
    go_wp2_with fail
    refine (oatleast_ok (n := n) (D := D) (d := (d : Int)) (by omega) (by omega) (by omega) (by omega) (HT.out _ (HE.out.trans (xM.trans Y1)))).mono ?_
    rintro e w2 ⟨b2, A2, k2, c2, A2', k2', c2', rfl, h2, y2, n2, n2'⟩
    clear n2 n2'
    go_upto_region 4 with (fail)
    have hG2 := FBox.new w2 (.bool b2) (.slice A2 k2 c2) (.slice A2' k2' c2') 27
    have Y2 : Ext W1 (w2.alloc (.cells #[.bool b2, .slice A2 k2 c2, .slice A2' k2' c2'] 27)) := ext_alloc y2 _
    have h2 := h2.below (ext_alloc (Below.refl _ _) (.cells #[.bool b2, .slice A2 k2 c2, .slice A2' k2' c2'] 27))
    have hsz2 : w2.heap.size < (w2.alloc (.cells #[.bool b2, .slice A2 k2 c2, .slice A2' k2' c2'] 27)).heap.size := by simp
    generalize w2.alloc (.cells #[.bool b2, .slice A2 k2 c2, .slice A2' k2' c2'] 27) = W2 at *
    generalize w2.heap.size = B2 at *
    have HG2 := Lib.hid (fun (w' : World) (h : Ext W2 w') => hG2.below h)
    have HP2 := Lib.hid (fun (w' : World) (h : Ext W2 w') => FracV.any (h2.below h) (HFL.out) (by omega))
    have HB2 := Lib.hid (fun (w' : World) (h : Ext W2 w') => h2.below h)
    clear hG2 h2 y2 hsz2
    have HC := Lib.hid (fun (w' : World) (h : Ext W2 w') => (⟨HGH.out _ (Y1.trans (Y2.trans h)), HG1.out _ (Y2.trans h), HG2.out _ h⟩ : _ ∧ _ ∧ _))
    have HPH2 := Lib.hid (fun (w' : World) (h : Ext W2 w') => HPH.out _ (Y1.trans (Y2.trans h)))
    have HP12 := Lib.hid (fun (w' : World) (h : Ext W2 w') => HP1.out _ (Y2.trans h))
    have f0 : Ext W2 W2 := Below.refl _ _
    have XT : Ext w W2 := HE.out.trans (xM.trans (Y1.trans Y2))
    obtain ⟨⟨p0, p1, p2, _, _, _⟩, ⟨q0, q1, q2, _, _, _⟩, r0, r1, r2, _, _, _⟩ := HC.out _ f0
    by_cases g1 : 0 < x1
    · by_cases g2 : 0 < x2
      · have HA := Lib.hid (show decide (Acc n d D (q / 2)) = true from decide_eq_true (HACC.out.2 ⟨g1, g2⟩))
        have e1 : decide (0 < x1) = true := decide_eq_true g1
        have e2 : decide (0 < x2) = true := decide_eq_true g2
        go_wp2_with (first
          | (go_at_call 16; (with_reducible refine (cmp_e (HP12.out _ f0) (HPH2.out _ f0) (by omega) HX1.out).mono ?_); rintro e s4 ⟨rfl, z4⟩; have f0 := Ext.trans f0 z4; obtain ⟨⟨p0, p1, p2, _, _, _⟩, ⟨q0, q1, q2, _, _, _⟩, r0, r1, r2, _, _, _⟩ := HC.out _ f0)
          | (go_at_call 16; (with_reducible refine (cmp_e (HP2.out _ f0) (HPH2.out _ f0) (by omega) HX2.out).mono ?_); rintro e s4 ⟨rfl, z4⟩; have f0 := Ext.trans f0 z4))
        go_ret
        exact ⟨by rw [HA.out]; (try simp [g1, g2]), XT.trans f0⟩
      · have HA := Lib.hid (show decide (Acc n d D (q / 2)) = false from decide_eq_false (fun h => g2 (HACC.out.1 h).2))
        have e1 : decide (0 < x1) = true := decide_eq_true g1
        have e2 : decide (0 < x2) = false := decide_eq_false g2
        go_wp2_with (first
          | (go_at_call 16; (with_reducible refine (cmp_e (HP12.out _ f0) (HPH2.out _ f0) (by omega) HX1.out).mono ?_); rintro e s4 ⟨rfl, z4⟩; have f0 := Ext.trans f0 z4; obtain ⟨⟨p0, p1, p2, _, _, _⟩, ⟨q0, q1, q2, _, _, _⟩, r0, r1, r2, _, _, _⟩ := HC.out _ f0)
          | (go_at_call 16; (with_reducible refine (cmp_e (HP2.out _ f0) (HPH2.out _ f0) (by omega) HX2.out).mono ?_); rintro e s4 ⟨rfl, z4⟩; have f0 := Ext.trans f0 z4))
        go_ret
        exact ⟨by rw [HA.out]; (try simp [g1, g2]), XT.trans f0⟩
    · have HA := Lib.hid (show decide (Acc n d D (q / 2)) = false from decide_eq_false (fun h => g1 (HACC.out.1 h).1))
      have e1 : decide (0 < x1) = false := decide_eq_false g1
      go_wp2_with (go_at_call 16; (with_reducible refine (cmp_e (HP12.out _ f0) (HPH2.out _ f0) (by omega) HX1.out).mono ?_); rintro e s4 ⟨rfl, z4⟩; have f0 := Ext.trans f0 z4; obtain ⟨⟨p0, p1, p2, _, _, _⟩, ⟨q0, q1, q2, _, _, _⟩, r0, r1, r2, _, _, _⟩ := HC.out _ f0)
      go_ret
      exact ⟨by rw [HA.out]; (try simp [g1]), XT.trans f0⟩

end Go.Proofs.YtjdpkmngboiemaaDoor
namespace Go.Proofs.YtjdpkmngboiemaaDoor
open Go.RowKit Num

theorem din_one {n d D : Int} (h : ¬ DIn n d D) : ¬ (KIn n d ∧ DiesIn [D]) := by
  rintro ⟨h1, h2⟩
  exact h ⟨h1, h2 D (List.mem_cons_self ..)⟩
set_option maxHeartbeats 4000000 in
theorem kaccepts_any {n d D : Int} {b : Bool} {s t : Value} {q : Rat} {L : Nat} {w : World} (hx : AnyF w b s t q L) (hL1 : 1 ≤ L) (hL : L ≤ 1000) (ht : Tab10 w) :
    Calls Tryd.prog 11 #[.int .i64 n, .int .i64 d, .int .i64 D, .agg #[.bool b, s, t]] w (fun e w' => e = .returned (.tuple #[.bool (accB n d D q), .int .i64 (accE n d D q)]) ∧ Ext w w') := by
  have HT := Lib.hid (fun (w' : World) (h : Ext w w') => ht.ext h)
  have HX := Lib.hid (fun (w' : World) (h : Ext w w') => hx.below h)
  clear ht hx
  by_cases hin : DIn n d D
  · obtain ⟨N, E, F, rfl, rfl, rfl, h1, h2, h3⟩ := din_nat hin
    have HCK := Lib.hid (kcheck1_ok h1 h2 h3)
    by_cases hq : Lvl q
    · rw [accE_ok hin hq, accB_ok hin hq]
      obtain ⟨r, hr⟩ : ∃ r, decide (Acc N E F (q / 2)) = r := ⟨_, rfl⟩
      rw [hr]
      have HR := Lib.hid hr
      have HQ := Lib.hid hq
      clear hr hq hin
      go_enter Tryd.func11, Tryd.ntmps11
      go_upto_region 1 with (fail)
      have hB0 := FBox.new w (.bool b) (s) (t) 27
      have x0 : Ext w (w.alloc (.cells #[.bool b, s, t] 27)) := ext_alloc (Below.refl _ _) _
      have hs0 : w.heap.size + 1 ≤ (w.alloc (.cells #[.bool b, s, t] 27)).heap.size := by simp
      generalize (w.alloc (.cells #[.bool b, s, t] 27)) = W0 at *
      have HB0 := Lib.hid (fun (w' : World) (h : Ext W0 w') => hB0.below h)
      obtain ⟨c00, c01, c02, d00, d01, d02⟩ := hB0
      have HE := Lib.hid x0
      clear x0
      have f0 : Ext W0 W0 := Below.refl _ _
      go_wp2_with fail
      refine (HCK.out _).mono ?_
      rintro e w1 ⟨rfl, rfl⟩
      have x1 : Ext W0 (W0.alloc (.cells #[.int .i64 F] 3)) := ext_alloc (Below.refl _ _) _
      generalize W0.alloc (.cells #[.int .i64 F] 3) = W5 at *
      obtain ⟨c00, c01, c02, _, _, _⟩ := HB0.out _ x1
      go_wp2_with (first
        | (go_at_call 34; (with_reducible refine (klevel_ok (HX.out _ (HE.out.trans x1)) hL HQ.out).mono ?_); rintro _ s1 ⟨rfl, z1⟩; have x2 := Ext.trans x1 z1; obtain ⟨c00, c01, c02, _, _, _⟩ := HB0.out _ x2)
        | (go_at_call 35; (with_reducible refine (kaccepted_ok (q := q) h1 h2 h3 (HX.out _ (HE.out.trans x2)) hL1 hL (HT.out _ (HE.out.trans x2))).mono ?_); rw [HR.out]; rintro _ s2 ⟨rfl, z2⟩; have x3 := Ext.trans x2 z2))
      go_ret2
      exact ⟨rfl, HE.out.trans x3⟩
    · have HE1 := Lib.hid (accE_arg hin hq)
      have HB1 := Lib.hid (accB_no (show accE N E F q ≠ 0 from by rw [HE1.out]; decide))
      rw [HE1.out, HB1.out]
      have HQ := Lib.hid hq
      clear hq hin
      go_enter Tryd.func11, Tryd.ntmps11
      go_upto_region 1 with (fail)
      have hB0 := FBox.new w (.bool b) (s) (t) 27
      have x0 : Ext w (w.alloc (.cells #[.bool b, s, t] 27)) := ext_alloc (Below.refl _ _) _
      have hs0 : w.heap.size + 1 ≤ (w.alloc (.cells #[.bool b, s, t] 27)).heap.size := by simp
      generalize (w.alloc (.cells #[.bool b, s, t] 27)) = W0 at *
      have HB0 := Lib.hid (fun (w' : World) (h : Ext W0 w') => hB0.below h)
      obtain ⟨c00, c01, c02, d00, d01, d02⟩ := hB0
      have HE := Lib.hid x0
      clear x0
      have f0 : Ext W0 W0 := Below.refl _ _
      go_wp2_with fail
      refine (HCK.out _).mono ?_
      rintro e w1 ⟨rfl, rfl⟩
      have x1 : Ext W0 (W0.alloc (.cells #[.int .i64 F] 3)) := ext_alloc (Below.refl _ _) _
      generalize W0.alloc (.cells #[.int .i64 F] 3) = W5 at *
      obtain ⟨c00, c01, c02, _, _, _⟩ := HB0.out _ x1
      go_wp2_with (go_at_call 34; (with_reducible refine (klevel_no (HX.out _ (HE.out.trans x1)) hL HQ.out).mono ?_); rintro _ s1 ⟨rfl, z1⟩; have x2 := Ext.trans x1 z1)
      go_ret2
      exact ⟨rfl, HE.out.trans x2⟩
  · have HE1 := Lib.hid (accE_range (q := q) hin)
    have HB1 := Lib.hid (accB_no (show accE n d D q ≠ 0 from by rw [HE1.out]; decide))
    have HCK := Lib.hid (kcheck1_no (din_one hin))
    rw [HE1.out, HB1.out]
    clear hin
    go_enter Tryd.func11, Tryd.ntmps11
    go_upto_region 1 with (fail)
    have hB0 := FBox.new w (.bool b) (s) (t) 27
    have x0 : Ext w (w.alloc (.cells #[.bool b, s, t] 27)) := ext_alloc (Below.refl _ _) _
    have hs0 : w.heap.size + 1 ≤ (w.alloc (.cells #[.bool b, s, t] 27)).heap.size := by simp
    generalize (w.alloc (.cells #[.bool b, s, t] 27)) = W0 at *
    have HB0 := Lib.hid (fun (w' : World) (h : Ext W0 w') => hB0.below h)
    obtain ⟨c00, c01, c02, d00, d01, d02⟩ := hB0
    have HE := Lib.hid x0
    clear x0
    have f0 : Ext W0 W0 := Below.refl _ _
    go_wp2_with fail
    refine (HCK.out _).mono ?_
    rintro e w1 ⟨rfl, rfl⟩
    have x1 : Ext W0 (W0.alloc (.cells #[.int .i64 D] 3)) := ext_alloc (Below.refl _ _) _
    generalize W0.alloc (.cells #[.int .i64 D] 3) = W5 at *
    go_wp2
    go_ret2
    exact ⟨rfl, HE.out.trans x1⟩

set_option maxHeartbeats 8000000 in
theorem kset_any {n d m : Int} {b : Bool} {s t : Value} {q : Rat} {L : Nat} {w : World} (hx : AnyF w b s t q L) (hL1 : 1 ≤ L) (hL : L ≤ 1000) (ht : Tab10 w) :
    Calls Tryd.prog 14 #[.int .i64 n, .int .i64 d, .int .i64 m, .agg #[.bool b, s, t]] w (GivesI w (setL n d m q) (accE n d m q)) := by
  have HT := Lib.hid (fun (w' : World) (h : Ext w w') => ht.ext h)
  have HX := Lib.hid (fun (w' : World) (h : Ext w w') => hx.below h)
  clear ht hx
  by_cases hin : DIn n d m
  · obtain ⟨N, E, M, rfl, rfl, rfl, h1, h2, h3⟩ := din_nat hin
    have HCK := Lib.hid (kcheck1_ok h1 h2 h3)
    by_cases hq : Lvl q
    · rw [accE_ok hin hq, setL_ok hin hq]
      obtain ⟨i0, hi, hz0, hz1, hz2⟩ := info_parts info_int
      have HQ := Lib.hid hq
      have HLEN := Lib.hid (fun k => accL_length (n := N) (d := E) (h := q / 2) k)
      clear hq hin
      go_enter Tryd.func14, Tryd.ntmps14
      go_upto_region 1 with (fail)
      have hB0 := FBox.new w (.bool b) (s) (t) 27
      have x0 : Ext w (w.alloc (.cells #[.bool b, s, t] 27)) := ext_alloc (Below.refl _ _) _
      have hs0 : w.heap.size + 1 ≤ (w.alloc (.cells #[.bool b, s, t] 27)).heap.size := by simp
      generalize (w.alloc (.cells #[.bool b, s, t] 27)) = W0 at *
      have HB0 := Lib.hid (fun (w' : World) (h : Ext W0 w') => hB0.below h)
      obtain ⟨c00, c01, c02, d00, d01, d02⟩ := hB0
      have HE := Lib.hid x0
      clear x0
      have f0 : Ext W0 W0 := Below.refl _ _
      go_wp2_with fail
      refine (HCK.out _).mono ?_
      rintro e w1 ⟨rfl, rfl⟩
      have x1 : Ext W0 (W0.alloc (.cells #[.int .i64 M] 3)) := ext_alloc (Below.refl _ _) _
      generalize W0.alloc (.cells #[.int .i64 M] 3) = W5 at *
      obtain ⟨c00, c01, c02, _, _, _⟩ := HB0.out _ x1
      go_wp2_with (go_at_call 34; (with_reducible refine (klevel_ok (HX.out _ (HE.out.trans x1)) hL HQ.out).mono ?_); rintro _ W6 ⟨rfl, z1⟩; have x2 := Ext.trans x1 z1; obtain ⟨c00, c01, c02, _, _, _⟩ := HB0.out _ x2)
      have xw6 := HE.out.trans x2
      go_loopw [11, 12] (fun ov iv wr => ∃ k : Nat, k ≤ M ∧ iv = .int .i64 ((k : Int) + 1) ∧ wr.ownsRow W6.heap.size 3 1 ov (natsI (accL N E (q / 2) k)).length (i64l (natsI (accL N E (q / 2) k))) ∧ Ext W6 wr)
        (fun _ iv _ => M + 1 - (intOf iv).toNat)
      case atStart => exact ⟨0, Nat.zero_le _, rfl, World.ownsRow_nil _ _ _ _, Below.refl _ _⟩
      case round =>
        clear c00 c01 c02
        obtain ⟨k, hk, rfl, hown, hE6⟩ := hrel
        obtain ⟨OA, OC, rfl, ho1, ho2⟩ := own_slice hown
        obtain ⟨c00, c01, c02, _, _, _⟩ := HB0.out _ (x2.trans hE6)
        have HOWN := Lib.hid hown
        have hXw : Ext w wr := xw6.trans hE6
        by_cases hkm : k < M
        · have hb1 : (k : Int) + 1 ≤ (M : Int) := by omega
          have hw1 : IntKind.i64.wrap ((k : Int) + 1 + 1) = (k : Int) + 1 + 1 := wrap_in (by omega)
          have HKM := Lib.hid (show k < M ∧ M ≤ 60 from by omega)
          have HKA := Lib.hid (fun (w' : World) (h : Ext wr w') => (show Calls Tryd.prog 35 #[.int .i64 N, .int .i64 E, .int .i64 ((k : Int) + 1), .agg #[.bool b, s, t]] w' (fun e w'' => e = .returned (.bool (decide (Acc N E (k + 1) (q / 2)))) ∧ Ext w' w'') from by
            have h0 := kaccepted_ok (n := N) (d := E) (D := k + 1) (q := q) h1 h2 (by omega) (HX.out _ (hXw.trans h)) hL1 hL (HT.out _ (hXw.trans h))
            rw [show ((k + 1 : Nat) : Int) = (k : Int) + 1 from by omega] at h0
            exact h0))
          clear hown
          by_cases ha : Acc N E (k + 1) (q / 2)
          · have HA := Lib.hid (show decide (Acc N E (k + 1) (q / 2)) = true from decide_eq_true ha)
            have HST := Lib.hid (accL_snoc_in ha)
            rw [HA.out] at HKA
            clear ha
            go_wp2_with fail
            refine (HKA.out _ (Below.refl _ _)).mono ?_
            rintro _ w7 ⟨rfl, e7⟩
            have hb7 : W6.heap.size ≤ w7.heap.size := (hE6.trans e7).size
            go_wp2_with (at_builtin; refine wpList_append_mine _ (by rfl) (.tmp 35) (.tmp 37) 35 (by rfl) W6.heap.size 3 i0 (.int .i64 0) 1 8 Tryd.underlying35 hi hz0 hz1 hz2 rfl (by omega) _ _ _ (by rfl) (World.ownsRow.kept HOWN.out (Ext.grown (ext_alloc e7 _)) (by cases OA <;> simp [Value.ownBlock])) ⟨w7.heap.size, 0, none⟩ 1 1 [.int .i64 ((k : Int) + 1)] (by rfl) rfl (cell_one w7 _ _) (by simp [Value.oneCell']) (by have := HLEN.out k; have := HKM.out; rw [natsI_length]; unfold maxLen; omega) (by have := HLEN.out k; have := HKM.out; rw [natsI_length]; omega) (by simp; omega) ?_
                         intro v8 w8 ho8 hg8 hw8)
            rw [i64l_snoc] at ho8
            have e8 : Ext W6 w8 := Below.grown (ext_alloc (hE6.trans e7) _) hg8 (by simp; have := (hE6.trans e7).size; omega) (fun b hb => by have := (HOWN.out.lt b hb).1; have := xw6.size; omega)
            go_wp2
            go_roundw
            case rel => exact ⟨k + 1, by omega, by go_num, by rw [HST.out, List.length_append]; exact ho8, e8⟩
            case measure => simp [intOf]; omega
          · have HA := Lib.hid (show decide (Acc N E (k + 1) (q / 2)) = false from decide_eq_false ha)
            have HST := Lib.hid (accL_out ha)
            rw [HA.out] at HKA
            clear ha
            go_wp2_with fail
            refine (HKA.out _ (Below.refl _ _)).mono ?_
            rintro _ w7 ⟨rfl, e7⟩
            go_wp2
            go_roundw
            case rel => exact ⟨k + 1, by omega, by go_num, by rw [HST.out]; exact World.ownsRow.kept HOWN.out (Ext.grown e7) (by cases OA <;> simp [Value.ownBlock]), hE6.trans e7⟩
            case measure => simp [intOf]; omega
        · obtain rfl : k = M := by omega
          have hb1 : ¬ ((k : Int) + 1 ≤ (k : Int)) := by omega
          have hI : IntsV wr (.slice OA _ OC) _ := IntsV.of_own hown
          have hN : New w.heap.size (.slice OA (natsI (accL N E (q / 2) k)).length OC) := fun b hb => by have := (hown.lt b hb).1; have := xw6.size; omega
          go_wp2
          go_ret2
          exact ⟨OA, OC, rfl, hI, hXw, hN⟩
    · have HE1 := Lib.hid (accE_arg hin hq)
      have HB1 := Lib.hid (setL_no (show accE N E M q ≠ 0 from by rw [HE1.out]; decide))
      rw [HE1.out, HB1.out]
      have HQ := Lib.hid hq
      clear hq hin
      go_enter Tryd.func14, Tryd.ntmps14
      go_upto_region 1 with (fail)
      have hB0 := FBox.new w (.bool b) (s) (t) 27
      have x0 : Ext w (w.alloc (.cells #[.bool b, s, t] 27)) := ext_alloc (Below.refl _ _) _
      have hs0 : w.heap.size + 1 ≤ (w.alloc (.cells #[.bool b, s, t] 27)).heap.size := by simp
      generalize (w.alloc (.cells #[.bool b, s, t] 27)) = W0 at *
      have HB0 := Lib.hid (fun (w' : World) (h : Ext W0 w') => hB0.below h)
      obtain ⟨c00, c01, c02, d00, d01, d02⟩ := hB0
      have HE := Lib.hid x0
      clear x0
      have f0 : Ext W0 W0 := Below.refl _ _
      go_wp2_with fail
      refine (HCK.out _).mono ?_
      rintro e w1 ⟨rfl, rfl⟩
      have x1 : Ext W0 (W0.alloc (.cells #[.int .i64 M] 3)) := ext_alloc (Below.refl _ _) _
      generalize W0.alloc (.cells #[.int .i64 M] 3) = W5 at *
      obtain ⟨c00, c01, c02, _, _, _⟩ := HB0.out _ x1
      go_wp2_with (go_at_call 34; (with_reducible refine (klevel_no (HX.out _ (HE.out.trans x1)) hL HQ.out).mono ?_); rintro _ s1 ⟨rfl, z1⟩; have x2 := Ext.trans x1 z1)
      go_ret2
      exact GivesI.none_ (HE.out.trans x2)
  · have HE1 := Lib.hid (accE_range (q := q) hin)
    have HB1 := Lib.hid (setL_no (show accE n d m q ≠ 0 from by rw [HE1.out]; decide))
    have HCK := Lib.hid (kcheck1_no (din_one hin))
    rw [HE1.out, HB1.out]
    clear hin
    go_enter Tryd.func14, Tryd.ntmps14
    go_upto_region 1 with (fail)
    have hB0 := FBox.new w (.bool b) (s) (t) 27
    have x0 : Ext w (w.alloc (.cells #[.bool b, s, t] 27)) := ext_alloc (Below.refl _ _) _
    have hs0 : w.heap.size + 1 ≤ (w.alloc (.cells #[.bool b, s, t] 27)).heap.size := by simp
    generalize (w.alloc (.cells #[.bool b, s, t] 27)) = W0 at *
    have HB0 := Lib.hid (fun (w' : World) (h : Ext W0 w') => hB0.below h)
    obtain ⟨c00, c01, c02, d00, d01, d02⟩ := hB0
    have HE := Lib.hid x0
    clear x0
    have f0 : Ext W0 W0 := Below.refl _ _
    go_wp2_with fail
    refine (HCK.out _).mono ?_
    rintro e w1 ⟨rfl, rfl⟩
    have x1 : Ext W0 (W0.alloc (.cells #[.int .i64 m] 3)) := ext_alloc (Below.refl _ _) _
    generalize W0.alloc (.cells #[.int .i64 m] 3) = W5 at *
    go_wp2
    go_ret2
    exact GivesI.none_ (HE.out.trans x1)

end Go.Proofs.YtjdpkmngboiemaaDoor
namespace Go.Proofs.YtjdpkmngboiemaaDoor
open Go.RowKit Num

theorem results_tmp4 {fn : Func} {t u v x : Tmp} (h : fn.results = #[.tmp t, .tmp u, .tmp v, .tmp x]) (tmps : Array Value) (P : Program) (w : World) :
    (results fn tmps).run P w = .ok (.tuple #[tmps.getD t undef, tmps.getD u undef, tmps.getD v undef, tmps.getD x undef]) w := by
  simp [results, h]

set_option maxHeartbeats 4000000 in
theorem krange_of {n d m : Int} {b : Bool} {s t : Value} {l : List Int} {er : Int} {w : World} (hc : er = 0 ∨ ((er = 1 ∨ er = 2) ∧ l = []))
    (hs : ∀ w', Ext w w' → Calls Tryd.prog 14 #[.int .i64 n, .int .i64 d, .int .i64 m, .agg #[.bool b, s, t]] w' (GivesI w' l er)) :
    Calls Tryd.prog 21 #[.int .i64 n, .int .i64 d, .int .i64 m, .agg #[.bool b, s, t]] w (fun e w' => e = .returned (.tuple #[.int .i64 (rngOf l m er).1.1, .int .i64 (rngOf l m er).1.2, .bool (rngOf l m er).2.1, .int .i64 (rngOf l m er).2.2]) ∧ Ext w w') := by
  have HS := Lib.hid hs
  clear hs
  rcases hc with rfl | ⟨rfl | rfl, rfl⟩
  · by_cases hl : l = []
    · subst hl
      rw [show rngOf [] m 0 = ((0, 0), (false, 7)) from rfl]
      go_enter Tryd.func21, Tryd.ntmps21
      go_upto_region 1 with (fail)
      have hB0 := FBox.new w (.bool b) (s) (t) 27
      have x0 : Ext w (w.alloc (.cells #[.bool b, s, t] 27)) := ext_alloc (Below.refl _ _) _
      have hs0 : w.heap.size + 1 ≤ (w.alloc (.cells #[.bool b, s, t] 27)).heap.size := by simp
      generalize (w.alloc (.cells #[.bool b, s, t] 27)) = W0 at *
      have HB0 := Lib.hid (fun (w' : World) (h : Ext W0 w') => hB0.below h)
      obtain ⟨c00, c01, c02, d00, d01, d02⟩ := hB0
      have HE := Lib.hid x0
      clear x0
      have f0 : Ext W0 W0 := Below.refl _ _
      go_wp2_with fail
      refine (HS.out _ HE.out).mono ?_
      rintro e w1 ⟨A, c, rfl, hI, y1, _⟩
      go_wp2
      ((try simp only [Exit.inBlock, Exit.then]); refine bodyPost_ret (results_tmp4 rfl _ _ _) rfl ?_)
      exact ⟨rfl, HE.out.trans y1⟩
    · have HRG := Lib.hid (show rngOf l m 0 = ((l.getD 0 0, l.getD (l.length - 1) 0), (decide (l.getD (l.length - 1) 0 = m), 0)) from by unfold rngOf; rw [if_neg (by decide), if_neg hl])
      rw [HRG.out]
      have hpos : 0 < l.length := List.length_pos_iff.2 hl
      obtain ⟨K, hK⟩ : ∃ K, K = l.length - 1 := ⟨_, rfl⟩
      rw [← hK]
      have hKl : K < l.length := by omega
      obtain ⟨x, hx⟩ : ∃ x, x = l.getD K 0 := ⟨_, rfl⟩
      obtain ⟨y, hy⟩ : ∃ y, y = l.getD 0 0 := ⟨_, rfl⟩
      rw [← hx, ← hy]
      have HX := Lib.hid hx
      have HY := Lib.hid hy
      clear hl hx hy
      go_enter Tryd.func21, Tryd.ntmps21
      go_upto_region 1 with (fail)
      have hB0 := FBox.new w (.bool b) (s) (t) 27
      have x0 : Ext w (w.alloc (.cells #[.bool b, s, t] 27)) := ext_alloc (Below.refl _ _) _
      have hs0 : w.heap.size + 1 ≤ (w.alloc (.cells #[.bool b, s, t] 27)).heap.size := by simp
      generalize (w.alloc (.cells #[.bool b, s, t] 27)) = W0 at *
      have HB0 := Lib.hid (fun (w' : World) (h : Ext W0 w') => hB0.below h)
      obtain ⟨c00, c01, c02, d00, d01, d02⟩ := hB0
      have HE := Lib.hid x0
      clear x0
      have f0 : Ext W0 W0 := Below.refl _ _
      go_wp2_with fail
      refine (HS.out _ HE.out).mono ?_
      rintro e w1 ⟨A, c, rfl, hI, y1, _⟩
      have hlc : (l.length : Int) ≤ 9223372036854775807 := by obtain ⟨_, _, e0, g1, g2, _⟩ := hI; injection e0 with e1 e2 e3; omega
      obtain ⟨b1, o1, rfl, hb1, hc1⟩ := hI.plC hKl
      obtain ⟨b2, o2, he, hb2, hc2⟩ := hI.plC hpos
      obtain ⟨rfl, rfl⟩ : b1 = b2 ∧ o1 = o2 := by
        injection he with he
        injection he with he1 he2
        exact ⟨he1, he2⟩
      rw [Nat.add_zero] at hc2
      rw [← HX.out] at hc1
      rw [← HY.out] at hc2
      have hw1 : IntKind.i64.wrap ((l.length : Int) - 1) = (K : Int) := by rw [wrap_in (by omega)]; omega
      have hi1 : (0 : Int) ≤ (K : Int) := by omega
      have hi2 : (K : Int) < (l.length : Int) := by omega
      have hi3 : (0 : Int) < (l.length : Int) := by omega
      have hi4 : ¬ ((l.length : Int) = 0) := by omega
      have hi5 : ((l.length : Int) == 0) = false := by rw [beq_eq_false_iff_ne]; omega
      have hi6 : ¬ (l.length = 0) := by omega
      clear hK
      go_wp2
      ((try simp only [Exit.inBlock, Exit.then]); refine bodyPost_ret (results_tmp4 rfl _ _ _) rfl ?_)
      exact ⟨by first | rfl | simp, HE.out.trans y1⟩
  · rw [show rngOf [] m 1 = ((0, 0), (false, 1)) from rfl]
    go_enter Tryd.func21, Tryd.ntmps21
    go_upto_region 1 with (fail)
    have hB0 := FBox.new w (.bool b) (s) (t) 27
    have x0 : Ext w (w.alloc (.cells #[.bool b, s, t] 27)) := ext_alloc (Below.refl _ _) _
    have hs0 : w.heap.size + 1 ≤ (w.alloc (.cells #[.bool b, s, t] 27)).heap.size := by simp
    generalize (w.alloc (.cells #[.bool b, s, t] 27)) = W0 at *
    have HB0 := Lib.hid (fun (w' : World) (h : Ext W0 w') => hB0.below h)
    obtain ⟨c00, c01, c02, d00, d01, d02⟩ := hB0
    have HE := Lib.hid x0
    clear x0
    have f0 : Ext W0 W0 := Below.refl _ _
    go_wp2_with fail
    refine (HS.out _ HE.out).mono ?_
    rintro e w1 ⟨A, c, rfl, hI, y1, _⟩
    go_wp2
    ((try simp only [Exit.inBlock, Exit.then]); refine bodyPost_ret (results_tmp4 rfl _ _ _) rfl ?_)
    exact ⟨rfl, HE.out.trans y1⟩
  · rw [show rngOf [] m 2 = ((0, 0), (false, 2)) from rfl]
    go_enter Tryd.func21, Tryd.ntmps21
    go_upto_region 1 with (fail)
    have hB0 := FBox.new w (.bool b) (s) (t) 27
    have x0 : Ext w (w.alloc (.cells #[.bool b, s, t] 27)) := ext_alloc (Below.refl _ _) _
    have hs0 : w.heap.size + 1 ≤ (w.alloc (.cells #[.bool b, s, t] 27)).heap.size := by simp
    generalize (w.alloc (.cells #[.bool b, s, t] 27)) = W0 at *
    have HB0 := Lib.hid (fun (w' : World) (h : Ext W0 w') => hB0.below h)
    obtain ⟨c00, c01, c02, d00, d01, d02⟩ := hB0
    have HE := Lib.hid x0
    clear x0
    have f0 : Ext W0 W0 := Below.refl _ _
    go_wp2_with fail
    refine (HS.out _ HE.out).mono ?_
    rintro e w1 ⟨A, c, rfl, hI, y1, _⟩
    go_wp2
    ((try simp only [Exit.inBlock, Exit.then]); refine bodyPost_ret (results_tmp4 rfl _ _ _) rfl ?_)
    exact ⟨rfl, HE.out.trans y1⟩
theorem krange_any {n d m : Int} {b : Bool} {s t : Value} {q : Rat} {L : Nat} {w : World} (hx : AnyF w b s t q L) (hL1 : 1 ≤ L) (hL : L ≤ 1000) (ht : Tab10 w) :
    Calls Tryd.prog 21 #[.int .i64 n, .int .i64 d, .int .i64 m, .agg #[.bool b, s, t]] w (fun e w' => e = .returned (.tuple #[.int .i64 (rngOf (setL n d m q) m (accE n d m q)).1.1, .int .i64 (rngOf (setL n d m q) m (accE n d m q)).1.2, .bool (rngOf (setL n d m q) m (accE n d m q)).2.1, .int .i64 (rngOf (setL n d m q) m (accE n d m q)).2.2]) ∧ Ext w w') := by
  refine krange_of (acc_case n d m q) fun w' h => kset_any (hx.below h) hL1 hL (ht.ext h)

end Go.Proofs.YtjdpkmngboiemaaDoor
namespace Go.Proofs.YtjdpkmngboiemaaDoor
open Go.RowKit Num

theorem kcheck1_yes {n d D : Int} (h : DIn n d D) (w : World) :
    Calls Tryd.prog 33 #[.int .i64 n, .int .i64 d, .slice (some ⟨w.heap.size, 0, none⟩) 1 1] (w.alloc (.cells #[.int .i64 D] 3)) (fun e w' => e = .returned (.int .i64 0) ∧ w' = w.alloc (.cells #[.int .i64 D] 3)) := by
  obtain ⟨N, E, F, rfl, rfl, rfl, h1, h2, h3⟩ := din_nat h
  exact kcheck1_ok h1 h2 h3 w

theorem klike_step {n d x : Nat} (h : d ≤ x) : likeF n d (x + 1 - d) = if pch n (likeF n d (x - d)) d < pch n (x + 1) d then x + 1 else likeF n d (x - d) := by
  have e : x + 1 - d = (x - d) + 1 := by omega
  have e2 : d + (x - d + 1) = x + 1 := by omega
  by_cases hc : pch n (likeF n d (x - d)) d < pch n (d + (x - d + 1)) d
  · have h1 : likeF n d (x - d + 1) = d + (x - d + 1) := if_pos hc
    rw [e2] at hc
    rw [if_pos hc, e, h1, e2]
  · have h1 : likeF n d (x - d + 1) = likeF n d (x - d) := if_neg hc
    rw [e2] at hc
    rw [if_neg hc, e, h1]
set_option maxHeartbeats 8000000 in
theorem klike_ok {n d m : Nat} {w : World} (h1 : 1 ≤ n ∧ n ≤ 24) (h2 : 1 ≤ d ∧ d ≤ n) (h3 : d ≤ m) (h4 : m ≤ 60) :
    Calls Tryd.prog 25 #[.int .i64 n, .int .i64 d, .int .i64 m] w (fun e w' => e = .returned (.tuple #[.int .i64 ((likeF n d (m - d) : Nat) : Int), .int .i64 0]) ∧ Ext w w') := by
  have HCK := Lib.hid (fun w => kcheck1_ok h1 h2 (show 1 ≤ m ∧ m ≤ 60 from by omega) w)
  have HPC := Lib.hid (fun (D : Nat) => (show pchI n D (d : Int) = pch n D d from by unfold pchI; rw [if_neg (by omega), Int.toNat_natCast]))
  have HFB := Lib.hid (fun (D : Nat) (h : D ≤ 60) => (show FB (pch n D d) 130 from by rw [← HPC.out]; exact pchI_fbC (n := n) (D := D) (by omega) h (d : Int)))
  have HCH := Lib.hid (fun (D : Nat) (g1 : 1 ≤ D) (g2 : D ≤ 60) (w' : World) => (show Calls Tryd.prog 12 #[.int .i64 n, .int .i64 D, .int .i64 d] w' (GivesFE w' (pch n D d)) from by have h0 := ochance_ok (n := n) (D := D) (d := (d : Int)) (w := w') (by omega) g1 g2; rw [HPC.out] at h0; exact h0))
  have HLK := Lib.hid (fun (j : Nat) => (likeF_law (n := n) (d := d) j).1)
  have HLS := Lib.hid (fun (x : Nat) (h : d ≤ x) => klike_step (n := n) h)
  have hmd : ¬ ((m : Int) < (d : Int)) := by omega
  have hmd2 : decide ((m : Int) < (d : Int)) = false := decide_eq_false hmd
  have hw0 : IntKind.i64.wrap ((d : Int) + 1) = (d : Int) + 1 := wrap_in (by omega)
  go_enter Tryd.func25, Tryd.ntmps25
  go_wp2_with fail
  refine (HCK.out _).mono ?_
  rintro e w1 ⟨rfl, rfl⟩
  have x1 : Ext w (w.alloc (.cells #[.int .i64 m] 3)) := ext_alloc (Below.refl _ _) _
  generalize w.alloc (.cells #[.int .i64 m] 3) = W5 at *
  go_wp2_with fail
  refine (HCH.out d (by omega) (by omega) _).mono ?_
  rintro e w6 ⟨b6, A6, k6, c6, A6', k6', c6', rfl, h6, y6, n6, n6'⟩
  have hlo := y6.size
  go_upto_region 8 with (fail)
  have hG6 := FBox.new w6 (.bool b6) (.slice A6 k6 c6) (.slice A6' k6' c6') 27
  have Y6 : Ext W5 (w6.alloc (.cells #[.bool b6, .slice A6 k6 c6, .slice A6' k6' c6'] 27)) := ext_alloc y6 _
  have h6 := h6.below (ext_alloc (Below.refl _ _) (.cells #[.bool b6, .slice A6 k6 c6, .slice A6' k6' c6'] 27))
  have hsz6 : w6.heap.size < (w6.alloc (.cells #[.bool b6, .slice A6 k6 c6, .slice A6' k6' c6'] 27)).heap.size := by simp
  generalize w6.alloc (.cells #[.bool b6, .slice A6 k6 c6, .slice A6' k6' c6'] 27) = W6 at *
  generalize w6.heap.size = B6 at *
  go_wp2
  go_loopw [9, 12] (fun bv iv wr => ∃ x : Nat, (d ≤ x ∧ x ≤ m) ∧ iv = .int .i64 ((x : Int) + 1) ∧ bv = .int .i64 ((likeF n d (x - d) : Nat) : Int) ∧ FIs W5 wr B6 (pch n (likeF n d (x - d)) d)) (fun _ iv _ => m + 1 - (intOf iv).toNat)
  case atStart => exact ⟨d, ⟨Nat.le_refl _, h3⟩, rfl, by rw [Nat.sub_self]; rfl, b6, A6, k6, c6, A6', k6', c6', hG6, by rw [Nat.sub_self]; exact h6, Y6, n6, n6'⟩
  case round =>
    clear hG6 h6 Y6 n6 n6' hsz6
    obtain ⟨x, ⟨hx1, hx2⟩, rfl, rfl, cc, MA, mk, ml, MA', mk', ml', hM, vM, xM, nM, nM'⟩ := hrel
    have hyb := HLK.out (x - d)
    have HSX := Lib.hid (HLS.out x hx1)
    obtain ⟨y, hy⟩ : ∃ y, y = likeF n d (x - d) := ⟨_, rfl⟩
    rw [← hy] at vM hyb HSX ⊢
    have hy60 : y ≤ 60 := by omega
    have HY := Lib.hid hy
    have HM2 := Lib.hid (fun (w' : World) (h : Ext wr w') => hM.below h)
    have HMV := Lib.hid (fun (w' : World) (h : Ext wr w') => vM.below h)
    have HMA := Lib.hid (fun (w' : World) (h : Ext wr w') => FracV.any (HMV.out w' h) (HFB.out y hy60) (by omega))
    have hMl := hM.lt
    clear vM hy
    by_cases hxm : x < m
    · have hb1 : (x : Int) + 1 ≤ (m : Int) := by omega
      have hw1 : IntKind.i64.wrap ((x : Int) + 1 + 1) = (x : Int) + 1 + 1 := wrap_in (by omega)
      have HKA := Lib.hid (fun (w' : World) => (show Calls Tryd.prog 12 #[.int .i64 n, .int .i64 ((x : Int) + 1), .int .i64 d] w' (GivesFE w' (pch n (x + 1) d)) from by
        have h0 := HCH.out (x + 1) (by omega) (by omega) w'
        rw [show ((x + 1 : Nat) : Int) = (x : Int) + 1 from by omega] at h0
        exact h0))
      obtain ⟨p, hp⟩ : ∃ p, p = pch n (x + 1) d := ⟨_, rfl⟩
      have HFP := Lib.hid (show FB p 130 from by rw [hp]; exact HFB.out (x + 1) (by omega))
      rw [← hp] at HKA HSX
      obtain ⟨r, hr⟩ : ∃ r, r = pch n y d := ⟨_, rfl⟩
      rw [← hr] at HMA HSX HMV
      obtain ⟨z, hz⟩ : ∃ z, cmpQ p r = z := ⟨_, rfl⟩
      have HZ := Lib.hid hz
      have HZP := Lib.hid (show 0 < z ↔ r < p from by rw [← hz]; exact cmpQ_pos p r)
      have HP := Lib.hid hp
      have HR := Lib.hid hr
      clear hp hr hz hM
      go_wp2_with fail
      refine (HKA.out _).mono ?_
      rintro e w1 ⟨b1, A1, k1, c1, A1', k1', c1', rfl, h1, y1, n1, n1'⟩
      go_upto_region 12 with (fail)
      have hG1 := FBox.new w1 (.bool b1) (.slice A1 k1 c1) (.slice A1' k1' c1') 27
      have Y1 : Ext wr (w1.alloc (.cells #[.bool b1, .slice A1 k1 c1, .slice A1' k1' c1'] 27)) := ext_alloc y1 _
      have h1 := h1.below (ext_alloc (Below.refl _ _) (.cells #[.bool b1, .slice A1 k1 c1, .slice A1' k1' c1'] 27))
      have hsz1 : w1.heap.size < (w1.alloc (.cells #[.bool b1, .slice A1 k1 c1, .slice A1' k1' c1'] 27)).heap.size := by simp
      generalize w1.alloc (.cells #[.bool b1, .slice A1 k1 c1, .slice A1' k1' c1'] 27) = W1 at *
      generalize w1.heap.size = B1 at *
      have HG1 := Lib.hid (fun (w' : World) (h : Ext W1 w') => hG1.below h)
      have HV1 := Lib.hid (fun (w' : World) (h : Ext W1 w') => h1.below h)
      clear hG1 h1 hsz1
      obtain ⟨p0, p1, p2, _, _, _⟩ := HG1.out _ (Below.refl _ _)
      obtain ⟨m0, m1, m2, gm0, gm1, gm2⟩ := HM2.out _ Y1
      by_cases hzz : 0 < z
      · have hz1 : decide (0 < z) = true := decide_eq_true hzz
        have HST := Lib.hid (show likeF n d (x + 1 - d) = x + 1 from by rw [HSX.out, if_pos (HZP.out.1 hzz)])
        go_upto_region 13 with (go_at_call 16; (with_reducible refine (cmp_e (FracV.any (HV1.out _ (Below.refl _ _)) HFP.out (by omega)) (HMA.out _ Y1) (by omega) HZ.out).mono ?_); rintro _ s4 ⟨rfl, z4⟩)
        have HS := Lib.hid (fun (w' : World) (h : Ext s4 w') => (⟨(HG1.out _ (z4.trans h)).1, (HG1.out _ (z4.trans h)).2.1, (HG1.out _ (z4.trans h)).2.2.1⟩ : w'.cell? ⟨B1, 0, none⟩ = some (.bool b1) ∧ w'.cell? ⟨B1, 1, none⟩ = some (.slice A1 k1 c1) ∧ w'.cell? ⟨B1, 2, none⟩ = some (.slice A1' k1' c1')))
        refine wp_region_G (fun w' => Ext s4 w') [3] (by kernel_rfl) ?_
        have gS : Ext s4 s4.drew := (Below.refl _ _).drew
        refine wpAnyG_take 0 (v := ?_) rfl (by kernel_rfl) (by kernel_rfl) (by kernel_rfl) (by kernel_rfl) (by rfl) (by kernel_rfl) (fun _ _ _ h => h) (by rfl) (fun w' hw' => ?_) gS ?_
        rotate_left
        focus (go_simp; (try with_reducible rfl); done)
        (try simp only [Act.put, List.setIfInBounds_toArray, List.set_cons_zero, List.set_cons_succ])
        refine wpAnyG_take 1 (v := ?_) rfl (by kernel_rfl) (by kernel_rfl) (by kernel_rfl) (by kernel_rfl) (by rfl) (by kernel_rfl) (fun _ _ _ h => h) (by rfl) (fun w' hw' => ?_) gS ?_
        rotate_left
        focus (have hh := HS.out _ hw'; go_split_ands; go_simp; (try with_reducible rfl); done)
        (try simp only [Act.put, List.setIfInBounds_toArray, List.set_cons_zero, List.set_cons_succ])
        refine wpAnyG_take 2 (v := ?_) rfl (by kernel_rfl) (by kernel_rfl) (by kernel_rfl) (by kernel_rfl) (by rfl) (by kernel_rfl) (fun _ _ _ h => h) (by rfl) (fun w' hw' => ?_) gS ?_
        rotate_left
        focus (go_simp; (try with_reducible rfl); done)
        (try simp only [Act.put, List.setIfInBounds_toArray, List.set_cons_zero, List.set_cons_succ])
        have f5 : Ext wr s4.drew := Y1.trans (z4.trans gS)
        have f6 : Ext W1 s4.drew := z4.trans gS
        obtain ⟨m0, m1, m2, gm0, gm1, gm2⟩ := HM2.out _ (Y1.trans z4)
        refine wpAnyG_one 3 (by kernel_rfl) rfl (by rfl) (fun K hK => ?_)
        go_simp
        refine hK.out _ _ (fun h => absurd h (by decide)) ?_
        clear hK K
        (try simp only [Act.put, List.setIfInBounds_toArray, List.set_cons_zero, List.set_cons_succ])
        refine wpAnyG_done (by kernel_rfl) ?_ _
        go_wp2
        go_roundw
        all_goals first
          | exact ⟨x + 1, ⟨by omega, by omega⟩, by go_num, by rw [HST.out]; go_num, b1, A1, k1, c1, A1', k1', c1', (HM2.out _ f5).put _ _ _, by rw [HST.out, ← HP.out]; exact FracV.put (HV1.out _ f6) n1 n1' hMl _ _ _, ext_put (xM.trans f5) hlo _ _ _, n1.mono xM.size, n1'.mono xM.size⟩
          | (simp [intOf]; omega)
      · have hz1 : decide (0 < z) = false := decide_eq_false hzz
        have HST := Lib.hid (show likeF n d (x + 1 - d) = y from by rw [HSX.out, if_neg (fun h => hzz (HZP.out.2 h))])
        go_wp2_with (go_at_call 16; (with_reducible refine (cmp_e (FracV.any (HV1.out _ (Below.refl _ _)) HFP.out (by omega)) (HMA.out _ Y1) (by omega) HZ.out).mono ?_); rintro _ s4 ⟨rfl, z4⟩)
        have f5 : Ext wr s4 := Y1.trans z4
        go_roundw
        all_goals first
          | exact ⟨x + 1, ⟨by omega, by omega⟩, by go_num, by rw [HST.out], cc, MA, mk, ml, MA', mk', ml', HM2.out _ f5, by rw [HST.out, ← HR.out]; exact HMV.out _ f5, xM.trans f5, nM, nM'⟩
          | (simp [intOf]; omega)
    · obtain rfl : x = m := by omega
      have hb1 : ¬ ((x : Int) + 1 ≤ (x : Int)) := by omega
      go_wp2
      go_ret2
      exact ⟨by rw [← HY.out]; rfl, x1.trans xM⟩
set_option maxHeartbeats 4000000 in
theorem klike_any {n d m : Int} {w : World} :
    Calls Tryd.prog 25 #[.int .i64 n, .int .i64 d, .int .i64 m] w (fun e w' => e = .returned (.tuple #[.int .i64 (likeV n d m), .int .i64 (likeE n d m)]) ∧ Ext w w') := by
  by_cases hin : DIn n d m
  · by_cases hmd : m < d
    · rw [(like_none hin hmd).1, (like_none hin hmd).2]
      have HCK := Lib.hid (fun w => kcheck1_yes hin w)
      have hmd2 : decide (m < d) = true := decide_eq_true hmd
      go_enter Tryd.func25, Tryd.ntmps25
      go_wp2_with fail
      refine (HCK.out _).mono ?_
      rintro e w1 ⟨rfl, rfl⟩
      have x1 : Ext w (w.alloc (.cells #[.int .i64 m] 3)) := ext_alloc (Below.refl _ _) _
      generalize w.alloc (.cells #[.int .i64 m] 3) = W5 at *
      go_wp2
      go_ret2
      exact ⟨rfl, x1⟩
    · obtain ⟨N, E, M, rfl, rfl, rfl, h1, h2, h3⟩ := din_nat hin
      obtain ⟨j, rfl⟩ : ∃ j, M = E + j := ⟨M - E, by omega⟩
      rw [(like_ok hin).1, (like_ok hin).2]
      have h := klike_ok (w := w) (n := N) (d := E) (m := E + j) h1 h2 (by omega) (by omega)
      rw [Nat.add_sub_cancel_left] at h
      exact h
  · rw [(like_range hin).1, (like_range hin).2]
    have HCK := Lib.hid (fun w => kcheck1_no (din_one hin) w)
    go_enter Tryd.func25, Tryd.ntmps25
    go_wp2_with fail
    refine (HCK.out _).mono ?_
    rintro e w1 ⟨rfl, rfl⟩
    have x1 : Ext w (w.alloc (.cells #[.int .i64 m] 3)) := ext_alloc (Below.refl _ _) _
    generalize w.alloc (.cells #[.int .i64 m] 3) = W5 at *
    go_wp2
    go_ret2
    exact ⟨rfl, x1⟩

end Go.Proofs.YtjdpkmngboiemaaDoor
