/- metal: Rank, Reduce. -/
import Derived.Test.YtmfigiifflljpaaMetB
set_option linter.unusedVariables false
set_option linter.unusedSimpArgs false
set_option maxRecDepth 100000
namespace Go.Proofs.Ytmfigiifflljpaa
open Go.RowKit Num

theorem valid_rep {n c : Nat} : validL (List.replicate n c) ↔ (n = 0 ∨ c ≤ 8) ∧ n ≤ 8 := by
  unfold validL
  rw [List.length_replicate]
  refine and_congr_left fun _ => ?_
  cases n with
  | zero => simp
  | succ n =>
    simp [List.replicate_succ, List.mem_replicate]
    exact fun h _ => h
theorem EMat.valid {K : Bool} {w : World} {v : Value} {n C : Nat} {M : Mx} (h : EMat K w v n C M) (hn : n ≤ 8) (hC : C ≤ 8) : Calls Try.prog 21 #[v] w (fun e w' => e = .returned (.bool true) ∧ Ext w w') := by
  have h1 := mvalid_l h.lens
  rwa [decide_eq_true (valid_rep.2 ⟨.inr hC, hn⟩)] at h1
theorem EMat.cols {K : Bool} {w : World} {v : Value} {n C : Nat} {M : Mx} (h : EMat K w v n C M) (hz : n = 0 → C = 0) : Calls Try.prog 44 #[v] w (fun e w' => e = .returned (.int .i64 (C : Int)) ∧ w' = w) := by
  have h1 := mcols_l h.lens
  have e : (List.replicate n C).headD 0 = C := by
    cases n with
    | zero => simp [hz rfl]
    | succ n => simp [List.replicate_succ]
  rwa [e] at h1
theorem LMat.invalid {w : World} {v : Value} {ls : List Nat} (h : LMat w v ls) (hv : ¬ validL ls) : Calls Try.prog 21 #[v] w (fun e w' => e = .returned (.bool false) ∧ Ext w w') := by
  have h1 := mvalid_l h
  rwa [decide_eq_false hv] at h1

set_option maxHeartbeats 4000000 in
theorem mrank_ok {K : Bool} {v : Value} {n C L : Nat} {M : Mx} {w : World} (hv : EMat K w v n C M) (hL3 : 3 ≤ L) (hL : L ≤ 1000) (hfb : FBm M n C L) (hn : n ≤ 8) (hC : C ≤ 8) (hz : n = 0 → C = 0) :
    Calls Try.prog 13 #[v] w (fun e w' => e = .returned (.tuple #[.int .i64 (rk M n C : Int), .int .i64 0]) ∧ Ext w w') := by
  have HV := Lib.hid (fun (w' : World) (h : Ext w w') => (hv.below h).valid hn hC)
  have HR := Lib.hid (fun (w' : World) (h : Ext w w') => mred_n (hv.below h) hL3 hL hfb hn (by omega) hz)
  obtain ⟨A, cap, rfl, _, _⟩ := hv.form
  clear hv hfb hz
  go_enter Try.func13, Try.ntmps13
  go_wp2_with (first
    | (go_at_call 21; (with_reducible refine (HV.out _ (Below.refl _ _)).mono ?_); rintro e w1 ⟨rfl, x1⟩)
    | (go_at_call 42; (with_reducible refine (HR.out _ x1).mono ?_); rintro e w2 ⟨A2, c2, A3, c3, rfl, _, _, x2⟩))
  go_ret2
  exact ⟨rfl, x1.trans x2⟩
set_option maxHeartbeats 4000000 in
theorem mrank_no {v : Value} {ls : List Nat} {w : World} (hv : LMat w v ls) (hl : ¬ validL ls) :
    Calls Try.prog 13 #[v] w (fun e w' => e = .returned (.tuple #[.int .i64 0, .int .i64 1]) ∧ Ext w w') := by
  have HV := Lib.hid (hv.invalid hl)
  obtain ⟨A, cap, rfl, _, _⟩ := hv.form
  clear hv hl
  go_enter Try.func13, Try.ntmps13
  go_wp2_with (go_at_call 21; (with_reducible refine HV.out.mono ?_); rintro e w1 ⟨rfl, x1⟩)
  go_ret2
  exact ⟨rfl, x1⟩
/-- A matrix and an error code. -/
def GivesM (w : World) (n C : Nat) (M : Mx) (er : Int) (e : Ending) (w' : World) : Prop :=
  ∃ A c, e = .returned (.tuple #[.slice A n c, .int .i64 er]) ∧ EMat true w' (.slice A n c) n C M ∧ Ext w w'
set_option maxHeartbeats 4000000 in
theorem mreduce_ok {K : Bool} {v : Value} {n C L : Nat} {M : Mx} {w : World} (hv : EMat K w v n C M) (hL3 : 3 ≤ L) (hL : L ≤ 1000) (hfb : FBm M n C L) (hn : n ≤ 8) (hC : C ≤ 8) (hz : n = 0 → C = 0) :
    Calls Try.prog 15 #[v] w (GivesM w n C (rrefs M n C).m 0) := by
  have HV := Lib.hid (fun (w' : World) (h : Ext w w') => (hv.below h).valid hn hC)
  have HR := Lib.hid (fun (w' : World) (h : Ext w w') => mred_n (hv.below h) hL3 hL hfb hn (by omega) hz)
  obtain ⟨A, cap, rfl, _, _⟩ := hv.form
  clear hv hfb hz
  go_enter Try.func15, Try.ntmps15
  go_wp2_with (first
    | (go_at_call 21; (with_reducible refine (HV.out _ (Below.refl _ _)).mono ?_); rintro e w1 ⟨rfl, x1⟩)
    | (go_at_call 42; (with_reducible refine (HR.out _ x1).mono ?_); rintro e w2 ⟨A2, c2, A3, c3, rfl, m2, _, x2⟩))
  go_ret2
  exact ⟨_, _, rfl, m2, x1.trans x2⟩
set_option maxHeartbeats 4000000 in
theorem mreduce_no {v : Value} {ls : List Nat} {w : World} (hv : LMat w v ls) (hl : ¬ validL ls) :
    Calls Try.prog 15 #[v] w (fun e w' => e = .returned (.tuple #[.slice none 0 0, .int .i64 1]) ∧ Ext w w') := by
  have HV := Lib.hid (hv.invalid hl)
  obtain ⟨A, cap, rfl, _, _⟩ := hv.form
  clear hv hl
  go_enter Try.func15, Try.ntmps15
  go_wp2_with (go_at_call 21; (with_reducible refine HV.out.mono ?_); rintro e w1 ⟨rfl, x1⟩)
  go_ret2
  exact ⟨rfl, x1⟩

end Go.Proofs.Ytmfigiifflljpaa
