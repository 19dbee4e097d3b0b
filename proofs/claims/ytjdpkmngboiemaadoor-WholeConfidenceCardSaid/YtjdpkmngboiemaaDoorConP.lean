/- confidence: what its functions compute, in plain numbers. No function is named here. -/
import Derived.Test.YtjdpkmngboiemaaDoorConB
import Derived.Test.YtjdpkmngboiemaaDoorOccC
import Derived.Test.YtjdpkmngboiemaaDoorKeep
set_option linter.unusedVariables false
set_option linter.unusedSimpArgs false
namespace Go.Proofs.YtjdpkmngboiemaaDoor
open Go.RowKit Num

theorem AnyF.fb {w : World} {b : Bool} {s t : Value} {q : Rat} {L : Nat} (h : AnyF w b s t q L) (hL : 1 ≤ L) : FB q L := by
  obtain ⟨n, d, _, _, rfl, h1, h2⟩ := h
  exact frac_fb h1 h2 hL
/-- A half. -/
def half12 : Rat := ((1 : Int) : Rat) / ((2 : Int) : Rat)
theorem half12_fb : FB half12 3 := fb_i64 (by omega) (by omega)
theorem half_eq (q : Rat) : q * half12 = q / 2 := by
  unfold half12
  rw [Rat.div_def, Rat.div_def]
  have e1 : ((1 : Int) : Rat) = 1 := rfl
  have e2 : ((2 : Int) : Rat) = 2 := rfl
  rw [e1, e2, Rat.one_mul]
/-- A number of dies within its limits beside a sample within its limits. -/
def DIn (n d D : Int) : Prop := KIn n d ∧ (1 ≤ D ∧ D ≤ 60)
instance (n d D : Int) : Decidable (DIn n d D) := by unfold DIn KIn; infer_instance
/-- The error that Accepts and Set answer. -/
def accE (n d D : Int) (q : Rat) : Int := if DIn n d D then (if Lvl q then 0 else 1) else 2
theorem accE_range {n d D : Int} {q : Rat} (h : ¬ DIn n d D) : accE n d D q = 2 := if_neg h
theorem accE_arg {n d D : Int} {q : Rat} (h : DIn n d D) (hq : ¬ Lvl q) : accE n d D q = 1 := by unfold accE; rw [if_pos h, if_neg hq]
theorem accE_ok {n d D : Int} {q : Rat} (h : DIn n d D) (hq : Lvl q) : accE n d D q = 0 := by unfold accE; rw [if_pos h, if_pos hq]
/-- What Accepts answers. -/
def accB (n d D : Int) (q : Rat) : Bool := decide (accE n d D q = 0 ∧ Acc n.toNat d.toNat D.toNat (q / 2))
theorem accB_no {n d D : Int} {q : Rat} (h : accE n d D q ≠ 0) : accB n d D q = false := by
  unfold accB
  exact decide_eq_false (fun h' => h h'.1)
theorem accB_ok {n d D : Nat} {q : Rat} (h : DIn n d D) (hq : Lvl q) : accB n d D q = decide (Acc n d D (q / 2)) := by
  unfold accB
  rw [accE_ok h hq]
  simp
def natsI (l : List Nat) : List Int := l.map (fun c : Nat => (c : Int))
/-- The numbers that Set answers. -/
def setL (n d m : Int) (q : Rat) : List Int := if accE n d m q = 0 then natsI (accL n.toNat d.toNat (q / 2) m.toNat) else []
theorem setL_no {n d D : Int} {q : Rat} (h : accE n d D q ≠ 0) : setL n d D q = [] := if_neg h
theorem setL_ok {n d m : Nat} {q : Rat} (h : DIn n d m) (hq : Lvl q) : setL n d m q = natsI (accL n d (q / 2) m) := by
  unfold setL
  rw [if_pos (accE_ok h hq)]
  simp
/-- What Range answers: low, high, whether it ends at the greatest number, the error. -/
def rngOf (l : List Int) (m er : Int) : (Int × Int) × (Bool × Int) :=
  if er ≠ 0 then ((0, 0), (false, er)) else if l = [] then ((0, 0), (false, 7)) else ((l.getD 0 0, l.getD (l.length - 1) 0), (decide (l.getD (l.length - 1) 0 = m), 0))
theorem acc_case (n d m : Int) (q : Rat) : accE n d m q = 0 ∨ ((accE n d m q = 1 ∨ accE n d m q = 2) ∧ setL n d m q = []) := by
  by_cases h1 : DIn n d m
  · by_cases h2 : Lvl q
    · exact .inl (accE_ok h1 h2)
    · exact .inr ⟨.inl (accE_arg h1 h2), setL_no (by rw [accE_arg h1 h2]; decide)⟩
  · exact .inr ⟨.inr (accE_range h1), setL_no (by rw [accE_range h1]; decide)⟩
theorem din_nat {n d D : Int} (h : DIn n d D) : ∃ N E F : Nat, n = N ∧ d = E ∧ D = F ∧ (1 ≤ N ∧ N ≤ 24) ∧ (1 ≤ E ∧ E ≤ N) ∧ (1 ≤ F ∧ F ≤ 60) := by
  obtain ⟨⟨⟨h1, h2⟩, h3, h4⟩, h5, h6⟩ := h
  exact ⟨n.toNat, d.toNat, D.toNat, by omega, by omega, by omega, by omega, by omega, by omega⟩
theorem din_of {n d D : Nat} (h1 : 1 ≤ n ∧ n ≤ 24) (h2 : 1 ≤ d ∧ d ≤ n) (h3 : 1 ≤ D ∧ D ≤ 60) : DIn n d D := ⟨⟨⟨by omega, by omega⟩, by omega, by omega⟩, by omega, by omega⟩
/-- What Likeliest answers. -/
def likeE (n d m : Int) : Int := if DIn n d m then (if m < d then 7 else 0) else 2
def likeV (n d m : Int) : Int := if DIn n d m then (if m < d then 0 else (likeF n.toNat d.toNat (m - d).toNat : Int)) else 0
theorem like_range {n d m : Int} (h : ¬ DIn n d m) : likeE n d m = 2 ∧ likeV n d m = 0 := ⟨if_neg h, if_neg h⟩
theorem like_none {n d m : Int} (h : DIn n d m) (h2 : m < d) : likeE n d m = 7 ∧ likeV n d m = 0 := by
  unfold likeE likeV
  rw [if_pos h, if_pos h, if_pos h2, if_pos h2]
  exact ⟨rfl, rfl⟩
theorem like_ok {n d : Nat} {j : Nat} (h : DIn n d ((d + j : Nat) : Int)) : likeE n d ((d + j : Nat) : Int) = 0 ∧ likeV n d ((d + j : Nat) : Int) = (likeF n d j : Int) := by
  unfold likeE likeV
  rw [if_pos h, if_pos h, if_neg (by omega), if_neg (by omega)]
  refine ⟨rfl, ?_⟩
  rw [Int.toNat_natCast, Int.toNat_natCast, show (((d + j : Nat) : Int) - (d : Int)).toNat = j from by omega]
theorem accL_snoc_in {n d m : Nat} {h : Rat} (ha : Acc n d (m + 1) h) : natsI (accL n d h (m + 1)) = natsI (accL n d h m) ++ [((m + 1 : Nat) : Int)] := by
  rw [accL_in ha]
  simp [natsI]
/-- The fixed calls. -/
theorem accB_awake : accB 3 1 2 (((2 : Int) : Rat) / ((5 : Int) : Rat)) = true := by decide +kernel
theorem accE_awake : accE 3 1 2 (((2 : Int) : Rat) / ((5 : Int) : Rat)) = 0 := by decide +kernel
theorem rng_awake : rngOf (setL 2 2 60 (((1 : Int) : Rat) / ((10 : Int) : Rat))) 60 (accE 2 2 60 (((1 : Int) : Rat) / ((10 : Int) : Rat))) = ((2, 60), (true, 0)) := by decide +kernel
theorem rat_awake : pchI 3 3 2 / pchI 3 2 2 = mkRat 8 9 := by decide +kernel

theorem getD_natsI {l : List Nat} {k : Nat} (hk : k < l.length) : (natsI l).getD k 0 = ((l.getD k 0 : Nat) : Int) := by
  unfold natsI
  rw [List.getD_eq_getElem?_getD, List.getD_eq_getElem?_getD, List.getElem?_map, List.getElem?_eq_getElem hk]
  rfl
theorem natsI_length (l : List Nat) : (natsI l).length = l.length := by simp [natsI]
theorem mem_natsI {l : List Nat} {x : Nat} : (x : Int) ∈ natsI l ↔ x ∈ l := by
  unfold natsI
  rw [List.mem_map]
  constructor
  · rintro ⟨a, h, e⟩
    obtain rfl : a = x := by omega
    exact h
  · intro h
    exact ⟨x, h, rfl⟩
theorem range_getD {lo k i : Nat} (hi : i < k) : (List.range' lo k).getD i 0 = lo + i := by
  rw [List.getD_eq_getElem?_getD, List.getElem?_range' hi]
  simp
/-- Set's numbers, when there are some: lo, lo + 1, .. , lo + k. -/
theorem set_shape {n d m : Nat} {h : Rat} (hd : 1 ≤ d) : accL n d h m = [] ∨ ∃ lo k, 1 ≤ lo ∧ lo + k ≤ m ∧ (natsI (accL n d h m)).length = k + 1 ∧ (∀ i, i ≤ k → (natsI (accL n d h m)).getD i 0 = ((lo + i : Nat) : Int)) := by
  rcases accL_shape (n := n) (h := h) hd m with h1 | ⟨lo, k, h1, h2, h3⟩
  · exact .inl h1
  · refine .inr ⟨lo, k, h1, h2, by rw [natsI_length, h3]; simp, fun i hi => ?_⟩
    rw [getD_natsI (by rw [h3]; simp; omega), h3, range_getD (by omega)]

end Go.Proofs.YtjdpkmngboiemaaDoor
