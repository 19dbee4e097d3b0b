/- counting: what the program counts (program alone). -/
import Derived.Test.YtnedgbebajhcpaaGreatDoorNum
import Derived.Test.YtnedgbebajhcpaaGreatDoorNatural
import Derived.Test.YtnedgbebajhcpaaGreatDoorRefOps
import Derived.Deep.DeepCutAuto
import Derived.Test.YtnedgbebajhcpaaGreatDoorRefMul
import Derived.Test.YtnedgbebajhcpaaGreatDoorText
set_option linter.unusedVariables false
set_option linter.unusedSimpArgs false
set_option maxRecDepth 100000
namespace Go.Proofs.YtnedgbebajhcpaaGreatDoor
open Num

def chs : Nat → Nat → Nat
  | _, 0 => 1
  | 0, _ + 1 => 0
  | n + 1, k + 1 => chs n k + chs n (k + 1)

theorem chs_zero (n : Nat) : chs n 0 = 1 := by cases n <;> rfl
theorem chs_zero_succ (k : Nat) : chs 0 (k + 1) = 0 := rfl
theorem chs_succ (n k : Nat) : chs (n + 1) (k + 1) = chs n k + chs n (k + 1) := rfl
theorem chs_gt : ∀ (n k : Nat), n < k → chs n k = 0 := by
  intro n
  induction n with
  | zero => intro k h; cases k with
    | zero => omega
    | succ k => rfl
  | succ n ih => intro k h; cases k with
    | zero => omega
    | succ k => rw [chs_succ, ih k (by omega), ih (k + 1) (by omega)]
theorem chs_self (n : Nat) : chs n n = 1 := by
  induction n with
  | zero => rfl
  | succ n ih => rw [chs_succ, ih, chs_gt n (n + 1) (by omega)]
theorem chs_step : ∀ (n k : Nat), chs n (k + 1) * (k + 1) = chs n k * (n - k) := by
  intro n
  induction n with
  | zero => intro k; rw [chs_zero_succ]; simp
  | succ n ih =>
    intro k
    cases k with
    | zero =>
      have := ih 0
      rw [chs_zero] at this
      rw [chs_succ, chs_zero, chs_zero]
      omega
    | succ k =>
      rcases Nat.lt_or_ge n k with h | h
      · rw [chs_gt (n + 1) (k + 1 + 1) (by omega), chs_gt (n + 1) (k + 1) (by omega)]; simp
      · have h1 := ih k
        have h2 := ih (k + 1)
        rw [chs_succ, chs_succ n k]
        generalize chs n (k + 1) = c at *
        generalize chs n (k + 1 + 1) = d at *
        generalize chs n k = b at *
        obtain ⟨m, rfl⟩ : ∃ m, n = k + m := ⟨n - k, by omega⟩
        rw [show k + m - k = m from by omega] at h1
        rw [show k + m + 1 - (k + 1) = m from by omega]
        rw [Nat.add_mul, h2, Nat.add_mul, ← h1, ← Nat.mul_add, ← Nat.mul_add]
        rcases Nat.eq_zero_or_pos m with hm | hm
        · subst hm
          have : c = 0 := by
            rw [Nat.mul_zero] at h1
            exact (Nat.mul_eq_zero.1 h1).resolve_right (by omega)
          rw [this]; simp
        · congr 1; omega
theorem chs_symm : ∀ (n k : Nat), k ≤ n → chs n k = chs n (n - k) := by
  intro n
  induction n with
  | zero => intro k h; rw [show k = 0 from by omega]
  | succ n ih =>
    intro k h
    cases k with
    | zero => rw [chs_zero, Nat.sub_zero, chs_self]
    | succ k =>
      rcases Nat.lt_or_ge k n with h' | h'
      · obtain ⟨m, hm⟩ : ∃ m, n - k = m + 1 := ⟨n - k - 1, by omega⟩
        rw [show n + 1 - (k + 1) = m + 1 from by omega, chs_succ, chs_succ, ih k (by omega), ih (k + 1) (by omega), hm, show n - (k + 1) = m from by omega, Nat.add_comm]
      · rw [show n = k from by omega, chs_self, show k + 1 - (k + 1) = 0 from by omega, chs_zero]
theorem chs_pos : ∀ (n k : Nat), k ≤ n → 0 < chs n k := by
  intro n
  induction n with
  | zero => intro k h; rw [show k = 0 from by omega]; decide
  | succ n ih =>
    intro k h
    cases k with
    | zero => rw [chs_zero]; omega
    | succ k => rw [chs_succ]; have := ih k (by omega); omega
theorem chs_le : ∀ (n k : Nat), chs n k ≤ 2 ^ n := by
  intro n
  induction n with
  | zero => intro k; cases k with
    | zero => decide
    | succ k => rw [chs_zero_succ]; omega
  | succ n ih =>
    intro k
    cases k with
    | zero => rw [chs_zero]; exact Nat.one_le_two_pow
    | succ k => rw [chs_succ, Nat.pow_succ]; have := ih k; have := ih (k + 1); omega

def fall (n : Nat) : Nat → Nat
  | 0 => 1
  | k + 1 => fall n k * (n - k)
theorem fall_succ (n k : Nat) : fall n (k + 1) = fall n k * (n - k) := rfl
theorem fall_gt (n : Nat) : ∀ k, n < k → fall n k = 0 := by
  intro k
  induction k with
  | zero => intro h; omega
  | succ k ih =>
    intro h
    rw [fall_succ]
    rcases Nat.lt_or_ge n k with h' | h'
    · rw [ih h', Nat.zero_mul]
    · rw [show n - k = 0 from by omega, Nat.mul_zero]
def fact : Nat → Nat
  | 0 => 1
  | k + 1 => fact k * (k + 1)
theorem fact_succ (k : Nat) : fact (k + 1) = fact k * (k + 1) := rfl
theorem fall_chs (n : Nat) : ∀ k, fall n k = chs n k * fact k := by
  intro k
  induction k with
  | zero => rw [chs_zero]; rfl
  | succ k ih => rw [fall_succ, ih, fact_succ, ← Nat.mul_assoc, Nat.mul_right_comm, ← chs_step, Nat.mul_right_comm]
theorem fall_self (n : Nat) : fall n n = fact n := by rw [fall_chs, chs_self, Nat.one_mul]

def stir : Nat → Nat → Nat
  | 0, 0 => 1
  | 0, _ + 1 => 0
  | _ + 1, 0 => 0
  | n + 1, k + 1 => stir n k + (k + 1) * stir n (k + 1)
theorem stir_succ (n k : Nat) : stir (n + 1) (k + 1) = stir n k + (k + 1) * stir n (k + 1) := rfl
theorem stir_succ_zero (n : Nat) : stir (n + 1) 0 = 0 := rfl
theorem stir_gt : ∀ (n k : Nat), n < k → stir n k = 0 := by
  intro n
  induction n with
  | zero => intro k h; cases k with
    | zero => omega
    | succ k => rfl
  | succ n ih => intro k h; cases k with
    | zero => omega
    | succ k => rw [stir_succ, ih k (by omega), ih (k + 1) (by omega), Nat.mul_zero]
theorem stir_le : ∀ (n k : Nat), stir n k ≤ (k + 1) ^ n := by
  intro n
  induction n with
  | zero => intro k; cases k with
    | zero => decide
    | succ k => exact Nat.zero_le _
  | succ n ih =>
    intro k
    cases k with
    | zero => rw [stir_succ_zero]; exact Nat.zero_le _
    | succ k =>
      rw [stir_succ, Nat.pow_succ]
      have h1 := ih k
      have h2 := Nat.mul_le_mul_left (k + 1) (ih (k + 1))
      have h3 : (k + 1) ^ n ≤ (k + 1 + 1) ^ n := Nat.pow_le_pow_left (by omega) n
      generalize (k + 1 + 1) ^ n = P at *
      rw [Nat.mul_comm P, Nat.add_mul (k + 1) 1 P]
      omega

def sumTo (f : Nat → Nat) : Nat → Nat
  | 0 => 0
  | n + 1 => sumTo f n + f n
theorem sumTo_succ (f : Nat → Nat) (n : Nat) : sumTo f (n + 1) = sumTo f n + f n := rfl
theorem sumTo_congr {f g : Nat → Nat} {n : Nat} (h : ∀ k, k < n → f k = g k) : sumTo f n = sumTo g n := by
  induction n with
  | zero => rfl
  | succ n ih => rw [sumTo_succ, sumTo_succ, ih fun k hk => h k (by omega), h n (by omega)]
theorem sumTo_add (f g : Nat → Nat) (n : Nat) : sumTo (fun k => f k + g k) n = sumTo f n + sumTo g n := by
  induction n with
  | zero => rfl
  | succ n ih => rw [sumTo_succ, sumTo_succ, sumTo_succ, ih]; omega
theorem sumTo_mul (c : Nat) (f : Nat → Nat) (n : Nat) : sumTo (fun k => c * f k) n = c * sumTo f n := by
  induction n with
  | zero => rfl
  | succ n ih => rw [sumTo_succ, sumTo_succ, ih, Nat.mul_add]
theorem sumTo_first (f : Nat → Nat) (n : Nat) : sumTo f (n + 1) = f 0 + sumTo (fun k => f (k + 1)) n := by
  induction n with
  | zero => simp [sumTo]
  | succ n ih => rw [sumTo_succ, ih, sumTo_succ]; omega

theorem fall_next (x k : Nat) : fall x (k + 1) + k * fall x k = x * fall x k := by
  rw [fall_succ]
  rcases Nat.lt_or_ge x k with h | h
  · rw [fall_gt x k h]; simp
  · rw [Nat.mul_comm, ← Nat.add_mul]; congr 1; omega
theorem stir_powers (x n : Nat) : sumTo (fun k => stir n k * fall x k) (n + 1) = x ^ n := by
  induction n with
  | zero => simp [sumTo, stir, fall]
  | succ n ih =>
    rw [sumTo_first, stir_succ_zero, Nat.zero_mul, Nat.zero_add, Nat.pow_succ, Nat.mul_comm, ← ih, ← sumTo_mul]
    have h1 : sumTo (fun k => stir (n + 1) (k + 1) * fall x (k + 1)) (n + 1) = sumTo (fun k => stir n k * fall x (k + 1)) (n + 1) + sumTo (fun k => (k + 1) * stir n (k + 1) * fall x (k + 1)) (n + 1) := by
      rw [← sumTo_add]
      exact sumTo_congr fun k _ => by rw [stir_succ, Nat.add_mul]
    have h2 : sumTo (fun k => (k + 1) * stir n (k + 1) * fall x (k + 1)) (n + 1) = sumTo (fun k => k * stir n k * fall x k) (n + 1) := by
      have e1 := sumTo_first (fun k => k * stir n k * fall x k) (n + 1)
      have e2 := sumTo_succ (fun k => k * stir n k * fall x k) (n + 1)
      simp only [Nat.zero_mul, Nat.zero_add] at e1
      rw [stir_gt n (n + 1) (by omega), Nat.mul_zero, Nat.zero_mul, Nat.add_zero] at e2
      rw [e2] at e1
      exact e1.symm
    rw [h1, h2, ← sumTo_add]
    refine sumTo_congr fun k _ => ?_
    have := fall_next x k
    rw [show k * stir n k * fall x k = stir n k * (k * fall x k) from by rw [Nat.mul_comm k, Nat.mul_assoc], ← Nat.mul_add, this, Nat.mul_left_comm]

theorem chs_len (n k : Nat) : (limbsOf (chs n k)).length ≤ n + 1 := len_of_le_pow (chs_le n k) (by omega)
theorem stir_len {n k : Nat} (hk : k < 999999999) : (limbsOf (stir n k)).length ≤ n + 1 := len_of_le_pow (stir_le n k) (by omega)
theorem fall_len {n : Nat} (hn : n < 1000000000) : ∀ k, (limbsOf (fall n k)).length ≤ k + 1 := by
  intro k
  induction k with
  | zero => exact len_small (by show 1 < _; omega)
  | succ k ih =>
    rw [fall_succ]
    have := limbsOf_length_mul (fall n k) (n - k)
    have := len_small (x := n - k) (by omega)
    omega
theorem fact_len : ∀ k, k < 1000000000 → (limbsOf (fact k)).length ≤ k + 1 := by
  intro k hk
  rw [← fall_self]
  exact fall_len hk k


end Go.Proofs.YtnedgbebajhcpaaGreatDoor

namespace Go.Proofs.YtnedgbebajhcpaaGreatDoor
open Go.RowKit Num

theorem chs_div (n i : Nat) : chs n i * (n - i) / (i + 1) = chs n (i + 1) := by
  rw [← chs_step]; exact Nat.mul_div_cancel _ (Nat.succ_pos i)
/-- Binomial coefficients, of any numbers. -/
def binI (n : Nat) (k : Int) : Nat := if k < 0 then 0 else chs n k.toNat
theorem binI_out {n : Nat} {k : Int} (h : k < 0 ∨ (n : Int) < k) : binI n k = 0 := by
  unfold binI
  split
  · rfl
  · exact chs_gt _ _ (by omega)
theorem binI_nat (n k : Nat) : binI n (k : Int) = chs n k := by unfold binI; rw [if_neg (by omega), Int.toNat_natCast]

end Go.Proofs.YtnedgbebajhcpaaGreatDoor

namespace Go.Proofs.YtnedgbebajhcpaaGreatDoor
open Go.RowKit Num

def binV (n k : Int) : Nat := if 0 ≤ n ∧ n ≤ 300 then binI n.toNat k else 0

end Go.Proofs.YtnedgbebajhcpaaGreatDoor

namespace Go.Proofs.YtnedgbebajhcpaaGreatDoor
open Go.RowKit Num

theorem info_nat : (Tryz.prog.info? 25).map (fun i => (i.zero, i.size, i.bytes)) = some (some (.agg #[.slice none 0 0]), 1, 24) := by kernel_rfl

section
variable {e : TypeId} {base B : Nat} {w w' w1 : World} {v v' u : Value} {us : List Value} {ns : List Nat} {m : Nat}
theorem OwnN.lit (w : World) (hb : base ≤ w.heap.size) (hu : CanV w u m) (hn : New B u) : OwnN e base B (w.alloc (.cells #[u] e)) (.slice (some ⟨w.heap.size, 0, none⟩) 1 1) [u] [m] := by
  refine ⟨?_, fun k x y hx hy => ?_⟩
  · have := World.ownsRow_lit (base := base) (e := e) (size := 1) w #[u] 1 hb (by unfold maxLen; omega) rfl
    simpa using this
  · rw [List.getElem?_singleton] at hx hy
    split at hx
    · simp_all
      subst hx hy
      exact ⟨hu.alloc _, Far.new hu (New.at_ (Nat.le_refl _))⟩
    · cases hx
theorem OwnN.grow (h : OwnN e base B w v us ns) (hE : Ext w w1) (hu : CanV w1 u m) (hn : New w.heap.size u) (hB : B ≤ w.heap.size) (hown : w'.ownsRow base e 1 v' (ns.length + 1) (us ++ [u])) (hg : w1.grownBy w' v.ownBlock) (hw : v'.ownBlock = v.ownBlock ∨ New w1.heap.size v') :
    OwnN e base B w' v' (us ++ [u]) (ns ++ [m]) :=
  (h.ext hE).push hu (Far.of_new hn fun g hg => (h.1.lt g hg).2) (hn.mono hB) hown hg hw
theorem OwnN.grow_ext {W : World} (h : OwnN e W.heap.size B w v us ns) (hx : Ext W w) (hE : Ext w w1) (hg : w1.grownBy w' v.ownBlock) : Ext W w' :=
  Below.grown (Ext.trans hx hE) hg (by have := hx.size; have := hE.size; omega) fun k hk => (h.1.lt k hk).1
end

def pasc (n : Nat) : List Nat := (List.range (n + 1)).map (chs n)
theorem pasc_at {n k : Nat} (h : k ≤ n) : (pasc n)[k]? = some (chs n k) := by unfold pasc; rw [List.getElem?_map, List.getElem?_range (by omega)]; rfl
theorem pasc_length (n : Nat) : (pasc n).length = n + 1 := by simp [pasc]
def upto_ (f : Nat → Nat) (k : Nat) : List Nat := (List.range k).map f
theorem upto_succ (f : Nat → Nat) (k : Nat) : upto_ f (k + 1) = upto_ f k ++ [f k] := by simp [upto_, List.range_succ]
theorem upto_length (f : Nat → Nat) (k : Nat) : (upto_ f k).length = k := by simp [upto_]
theorem upto_at {f : Nat → Nat} {n k : Nat} (h : k < n) : (upto_ f n)[k]? = some (f k) := by unfold upto_; rw [List.getElem?_map, List.getElem?_range h]; rfl
/-- A list of Naturals as an answer. -/
def GivesL (w : World) (ns : List Nat) (e : Ending) (w' : World) : Prop := ∃ A c, e = .returned (.slice A ns.length c) ∧ NatsV w.heap.size w' (.slice A ns.length c) ns ∧ Ext w w' ∧ New w.heap.size (.slice A ns.length c)

end Go.Proofs.YtnedgbebajhcpaaGreatDoor

namespace Go.Proofs.YtnedgbebajhcpaaGreatDoor
open Go.RowKit Num

section
variable {e : TypeId} {base : Nat} {w w' w1 : World} {v v' u : Value} {us : List Value} {ns : List Nat} {m : Nat}
theorem Far.old {wo : World} {xs : List Nat} (hu : U32s wo u xs) (hv : ∀ g, v.ownBlock = some g → wo.heap.size ≤ g) : Far u v := by
  intro A n c g e hg
  subst e
  have h1 := hu.lt
  have h2 := hv g hg
  omega
end
theorem stir_top (i : Nat) : stir (i + 1) (i + 1) = stir i i := by rw [stir_succ, stir_gt i (i + 1) (by omega), Nat.mul_zero, Nat.add_zero]

end Go.Proofs.YtnedgbebajhcpaaGreatDoor

namespace Go.Proofs.YtnedgbebajhcpaaGreatDoor
open Go.RowKit Num

def stI (n : Nat) (k : Int) : Nat := if k < 0 then 0 else stir n k.toNat
theorem stI_out {n : Nat} {k : Int} (h : k < 0 ∨ (n : Int) < k) : stI n k = 0 := by
  unfold stI
  split
  · rfl
  · exact stir_gt _ _ (by omega)
theorem stI_nat (n k : Nat) : stI n (k : Int) = stir n k := by unfold stI; rw [if_neg (by omega), Int.toNat_natCast]
def stV (n k : Int) : Nat := if 0 ≤ n ∧ n ≤ 64 then stI n.toNat k else 0

end Go.Proofs.YtnedgbebajhcpaaGreatDoor

namespace Go.Proofs.YtnedgbebajhcpaaGreatDoor
open Go.RowKit Num

def sjV (n k : Int) : Nat := if (0 ≤ n ∧ n ≤ 64) ∧ (0 ≤ k ∧ k ≤ 64) then stir n.toNat k.toNat * fact k.toNat else 0
def blV (n : Int) : Nat := if 0 ≤ n ∧ n ≤ 64 then sumTo (stir n.toNat) (n.toNat + 1) else 0

theorem sum_le {n : Nat} : ∀ k, k ≤ 65 → sumTo (stir n) k ≤ k * 66 ^ n := by
  intro k
  induction k with
  | zero => intro _; simp [sumTo]
  | succ k ih =>
    intro hk
    have h1 := ih (by omega)
    have h2 : stir n k ≤ 66 ^ n := Nat.le_trans (stir_le n k) (Nat.pow_le_pow_left (by omega) n)
    rw [sumTo_succ, Nat.add_mul]
    omega
theorem sum_len {n k : Nat} (hk : k ≤ 65) : (limbsOf (sumTo (stir n) k)).length ≤ n + 2 := by
  refine len_of_le_pow (n := n + 1) (b := 66) ?_ (by omega)
  have h1 := sum_le (n := n) k hk
  have h2 : k * 66 ^ n ≤ 66 * 66 ^ n := Nat.mul_le_mul_right _ (by omega)
  rw [Nat.pow_succ, Nat.mul_comm (66 ^ n)]
  omega

end Go.Proofs.YtnedgbebajhcpaaGreatDoor

namespace Go.Proofs.YtnedgbebajhcpaaGreatDoor
open Go.RowKit Num

/-- The call says a number of digits, at most 15. -/
def Dig15 (x : Value) (w : World) : Prop :=
  Calls Tryz.prog 106 #[.agg #[x]] w (fun e w' => ∃ d : Nat, d ≤ 15 ∧ e = .returned (.int .i64 d) ∧ Ext w w')

theorem digits_small {x : Value} {n : Nat} {w : World} (hx : NatV w x n) (hn : n < 100) : Dig15 x w := by
  unfold Dig15
  have hX := hx.alloc (.cells #[x] 25)
  by_cases h0 : n = 0
  · subst h0
    go_enter Tryz.func106, Tryz.ntmps106
    go_wp2_with (go_at_call 44; (with_reducible refine (text_zero hX).mono ?_); rintro e w1 ⟨rfl, x1⟩)
    go_ret
    exact ⟨1, by omega, rfl, ext_new x1⟩
  · have hl : ((⟨(Lib.decDigits n).toArray⟩ : ByteArray).size) ≤ 15 := by
      show (Lib.decDigits n).toArray.size ≤ 15
      rw [List.size_toArray]; have := decDigits_len hn; omega
    have HT := Lib.hid (fun w (h : NatV w x n) => text_smallV h (by omega) hn)
    generalize (⟨(Lib.decDigits n).toArray⟩ : ByteArray) = s at *
    go_enter Tryz.func106, Tryz.ntmps106
    go_wp2_with (go_at_call 44; (with_reducible refine (HT.out _ hX).mono ?_); rintro e w1 ⟨rfl, x1⟩)
    go_ret
    exact ⟨s.size, by omega, rfl, ext_new x1⟩

theorem digits_tab {x : Value} {n : Nat} {w : World} (hx : NatV w x n) (hn : n < 1000000000) (htab : Tab10 w) : Dig15 x w := by
  by_cases h0 : n = 0
  · exact digits_small hx (by omega)
  · unfold Dig15
    have hX := hx.alloc (.cells #[x] 25)
    have hT := htab.ext (ext_alloc (Below.refl _ _) (.cells #[x] 25))
    have hl : ((⟨(Lib.decDigits n).toArray⟩ : ByteArray).size) ≤ 15 := by
      show (Lib.decDigits n).toArray.size ≤ 15
      rw [List.size_toArray]; have := digits_le9 hn; omega
    have HT := Lib.hid (text_oneV hX (by omega) hn hT)
    generalize (⟨(Lib.decDigits n).toArray⟩ : ByteArray) = s at *
    go_enter Tryz.func106, Tryz.ntmps106
    go_wp2_with (go_at_call 44; (with_reducible refine HT.out.mono ?_); rintro e w1 ⟨rfl, x1⟩)
    go_ret
    exact ⟨s.size, by omega, rfl, ext_new x1⟩

theorem and_one_256 : ∀ m : Fin 257, bits .and .i64 ((m.val : Nat) : Int) 1 = ((m.val % 2 : Nat) : Int) := by decide +kernel
theorem and_one {m : Nat} (h : m ≤ 256) : bits .and .i64 (m : Int) 1 = ((m % 2 : Nat) : Int) := and_one_256 ⟨m, by omega⟩

theorem pow_len {a p N : Nat} (ha : a < 1000000000) (hp : p ≤ N) (hN : N ≤ 256) : (limbsOf (a ^ p)).length ≤ 257 := by
  have := len_of_le_pow (x := a ^ p) (Nat.le_refl _) ha; omega

set_option maxHeartbeats 4000000 in
theorem pow_e {x : Value} {a N : Nat} {w : World} (hx : NatV w x a) (ha : a < 1000000000) (hN : N ≤ 256) (hD : ∀ w', Ext w w' → NatV w' x a → Dig15 x w') :
    Calls Tryz.prog 95 #[.agg #[x], .int .i64 N] w (GivesT w (a ^ N) 0) := by
  have HD := Lib.hid hD
  clear hD
  have h256 : decide (256 < (N : Int)) = false := by simp; omega
  have hneg : decide ((N : Int) < 0) = false := by simp
  have HA := Lib.hid ha
  clear ha
  unfold Dig15 at HD
  go_enter Tryz.func95, Tryz.ntmps95
  go_upto_region 1 with (fail)
  have hB0 : Boxes w ((w.alloc (.cells #[x] 25)).alloc (.cells #[.slice none 0 0] 25)) [[x], [.slice none 0 0]] := ((Boxes.nil_ w).alloc rfl [x] 25).alloc (by simp) [.slice none 0 0] 25
  generalize (w.alloc (.cells #[x] 25)).alloc (.cells #[.slice none 0 0] 25) = W0 at *
  obtain ⟨cx, fx⟩ : W0.cell? ⟨w.heap.size, 0, none⟩ = some x ∧ W0.frozen? ⟨w.heap.size, 0, none⟩ = false := hB0.cell 0 _ 0 _ rfl rfl
  obtain ⟨cz, fz⟩ : W0.cell? ⟨w.heap.size + 1, 0, none⟩ = some (.slice none 0 0) ∧ W0.frozen? ⟨w.heap.size + 1, 0, none⟩ = false := hB0.cell 1 _ 0 _ rfl rfl
  have hE0 := hB0.ext
  have hX0 := hx.below hE0
  have hs0 : w.heap.size + 2 ≤ W0.heap.size := hB0.size
  clear hB0
  go_wp2_with fail
  refine (HD.out _ hE0 hX0).mono ?_
  rintro e w1 ⟨d, hd, rfl, x1⟩
  have cx1 := (x1.cell (p := ⟨w.heap.size, 0, none⟩) (World.block_lt_of_cell? _ _ cx)).trans cx
  have hX1 := hX0.below x1
  have hdN : (d : Int) * N ≤ 3840 := by
    have : d * N ≤ 15 * 256 := Nat.mul_le_mul hd hN
    rw [← Int.natCast_mul]; omega
  have hd0 : 0 ≤ (d : Int) * N := by rw [← Int.natCast_mul]; omega
  obtain ⟨t, ht⟩ : ∃ t : Int, (d : Int) * N = t := ⟨_, rfl⟩
  rw [ht] at hdN hd0
  have hs1 : w.heap.size + 2 ≤ w1.heap.size := Nat.le_trans hs0 x1.size
  have cy1 := (World.cell?_alloc_lt w1 (.cells #[.int .u32 1] 65) ⟨w.heap.size, 0, none⟩ (by show w.heap.size < _; omega)).trans cx1
  go_wp2_with fail
  refine (limbs_n (hX1.alloc _)).mono ?_
  rintro e w2 ⟨v2, rfl, h2, x2, n2⟩
  have hone : CanV w2 (.slice (some ⟨w1.heap.size, 0, none⟩) 1 1) 1 := by
    have h0 := World.ownsRow_lit (base := w1.heap.size) (e := 65) (size := 1) w1 #[.int .u32 1] 1 (Nat.le_refl _) (by unfold maxLen; omega) rfl
    have h1 := U32s.of_own (xs := [1]) (by simpa [u32s] using h0) (Nat.le_refl _) (by omega)
    unfold CanV
    rw [limbsOf_one (by omega) (by omega)]
    exact U32s.below h1 x2
  have hx2 : Ext W0 w2 := x1.trans (ext_new x2)
  have hnone : New (w.heap.size + 2) (.slice (some ⟨w1.heap.size, 0, none⟩) 1 1) := New.at_ hs1
  clear HD x1 cx1 cy1 x2 n2 cx fx hX1 hX0
  go_wp2
  go_loopw [1, 6, 7] (fun nv ov sv wr => ∃ m p q : Nat, nv = .int .i64 m ∧ m ≤ 256 ∧ Hid (p + q * m = N) ∧ CanV wr ov (a ^ p) ∧ CanV wr sv (a ^ q) ∧ New (w.heap.size + 2) ov ∧ Ext W0 wr) (fun nv _ _ _ => (intOf nv).toNat)
  case atStart => exact ⟨N, 0, 1, rfl, hN, by rw [Nat.one_mul, Nat.zero_add]; exact Lib.hid rfl, by rw [Nat.pow_zero]; exact hone, by rw [Nat.pow_one]; exact h2, hnone, hx2⟩
  case round =>
    obtain ⟨m, p, q, rfl, hm, hpq, ho, hs, no, hx⟩ := hrel
    by_cases hm0 : 0 < m
    · have HP1 := Lib.hid (show (limbsOf (a ^ p)).length ≤ 257 from by
        have h1 := hpq.out
        exact pow_len HA.out (show p ≤ N by omega) hN)
      have HP2 := Lib.hid (show (limbsOf (a ^ q)).length ≤ 257 from by
        have h1 := hpq.out
        exact pow_len HA.out (show q ≤ N by have := Nat.le_mul_of_pos_right q hm0; omega) hN)
      have HB := Lib.hid (and_one hm)
      have HEXP := Lib.hid (show ∀ r, m = 2 * (m / 2) + r → (a ^ q * a ^ q) = a ^ (2 * q) ∧ 2 * q * (m / 2) + q * r = q * m from by
        intro r hr
        refine ⟨by rw [← Nat.pow_add, show q + q = 2 * q from by omega], ?_⟩
        conv => rhs; rw [hr, Nat.mul_add, ← Nat.mul_assoc, Nat.mul_comm q 2])
      have HMD := Lib.hid (show (m : Int) / 2 = ((m / 2 : Nat) : Int) from by omega)
      rcases Nat.mod_two_eq_zero_or_one m with h2 | h2
      · have hb : (bits .and .i64 (m : Int) 1 != 0) = false := by rw [HB.out, h2]; rfl
        have H2 := Lib.hid h2
        have hm1 : (1 : Int) < m := by omega
        clear h2
        go_wp2_with fail
        refine (times_any hs hs (by have := HP2.out; omega)).mono ?_
        rintro e w3 ⟨v3, rfl, h3, x3, n3⟩
        go_wp2
        go_roundw
        case rel =>
          obtain ⟨e1, e2⟩ := HEXP.out 0 (by have := H2.out; omega)
          rw [e1] at h3
          exact ⟨m / 2, p, 2 * q, by rw [HMD.out], by omega, Lib.hid (by have := hpq.out; omega), ho.below x3, h3, no, hx.trans x3⟩
        case measure => simp [intOf]; omega
      · have hb : (bits .and .i64 (m : Int) 1 != 0) = true := by rw [HB.out, h2]; rfl
        have H2 := Lib.hid h2
        clear h2
        go_wp2_with fail
        refine (times_any ho hs (by have := HP1.out; have := HP2.out; omega)).mono ?_
        rintro e w3 ⟨v3, rfl, h3, x3, n3⟩
        have n3' := n3.mono (Nat.le_trans hs0 hx.size)
        rw [← Nat.pow_add] at h3
        by_cases hm1 : 1 < m
        · go_wp2_with fail
          refine (times_any (hs.below x3) (hs.below x3) (by have := HP2.out; omega)).mono ?_
          rintro e w4 ⟨v4, rfl, h4, x4, n4⟩
          go_wp2
          go_roundw
          case rel =>
            obtain ⟨e1, e2⟩ := HEXP.out 1 (by have := H2.out; omega)
            rw [e1] at h4
            exact ⟨m / 2, p + q, 2 * q, by rw [HMD.out], by omega, Lib.hid (by have := hpq.out; omega), h3.below x4, h4, n3', (hx.trans x3).trans x4⟩
          case measure => simp [intOf]; omega
        · go_wp2
          go_roundw
          case rel =>
            obtain ⟨e1, e2⟩ := HEXP.out 1 (by have := H2.out; omega)
            exact ⟨m / 2, p + q, q, by rw [HMD.out], by omega, Lib.hid (by have := hpq.out; rw [show m / 2 = 0 from by omega] at *; omega), h3, hs.below x3, n3', hx.trans x3⟩
          case measure => simp [intOf]; omega
    · obtain rfl : m = 0 := by omega
      have HPN := Lib.hid (show p = N from by have := hpq.out; omega)
      clear hpq
      have cz0 := (hx.cell (p := ⟨w.heap.size + 1, 0, none⟩) (World.block_lt_of_cell? _ _ cz)).trans cz
      have fz0 := (hx.frozen (p := ⟨w.heap.size + 1, 0, none⟩) (World.block_lt_of_cell? _ _ cz)).trans fz
      go_wp2_with fail
      refine (made_c ho no).mono ?_
      rintro e w3 ⟨A3, k3, c3, rfl, h3, x3, n3⟩
      have cz3 := (x3.cell (p := ⟨w.heap.size + 1, 0, none⟩) (World.block_lt_of_cell? _ _ cz0)).trans cz0
      have fz3 := (x3.frozen (p := ⟨w.heap.size + 1, 0, none⟩) (World.block_lt_of_cell? _ _ cz0)).trans fz0
      clear cz0 fz0 cz fz
      go_wp2
      refine bodyPost_ret (v := .tuple #[.agg #[.slice A3 k3 c3], .int .i64 0]) (by simp [results, Tryz.results95, go_sem, World.cell?_setCell_same _ _ _ cz3]) rfl ?_
      rw [HPN.out] at h3
      exact ⟨_, _, _, rfl, U32s.setNew h3 n3 (by show w.heap.size + 1 < _; omega) _, (hE0.trans (hx.trans x3)).setCell (by show w.heap.size ≤ w.heap.size + 1; omega) _, n3.mono (by omega)⟩

theorem pow_n {x : Value} {a N : Nat} {w : World} (hx : NatV w x a) (ha : a < 1000000000) (hN : N ≤ 256) (hD : ∀ w', NatV w' x a → Dig15 x w') :
    Calls Tryz.prog 95 #[.agg #[x], .int .i64 N] w (GivesT w (a ^ N) 0) := pow_e hx ha hN fun w' _ h => hD w' h


end Go.Proofs.YtnedgbebajhcpaaGreatDoor
