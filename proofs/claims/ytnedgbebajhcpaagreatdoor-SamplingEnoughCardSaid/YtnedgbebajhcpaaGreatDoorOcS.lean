/- occupancy: Unequal; the reference's Uses. occupancy: Singles. -/
import Derived.Test.YtnedgbebajhcpaaGreatDoorOccAw
import Derived.Test.YtnedgbebajhcpaaGreatDoorHold
import Derived.Test.YtnedgbebajhcpaaGreatDoorKeep
import Derived.Test.YtnedgbebajhcpaaGreatDoorOcRD
import Derived.Test.YtnedgbebajhcpaaGreatDoorFrlS
import Derived.Test.YtnedgbebajhcpaaGreatDoorOcB
set_option linter.unusedVariables false
set_option linter.unusedSimpArgs false
set_option maxRecDepth 100000
namespace Go.Proofs.YtnedgbebajhcpaaGreatDoor
open Go.RowKit Num

theorem IntsV.pl {w : World} {A : Option Addr} {n c k : Nat} {zs : List Int} (h : IntsV w (.slice A n c) zs) (hk : k < zs.length) :
    ∃ b o, A = some ⟨b, o, none⟩ ∧ b < w.heap.size ∧ w.cell? ⟨b, o + k, none⟩ = some (.int .i64 (zs.getD k 0)) := by
  obtain ⟨ad, rfl, hb, hc⟩ := h.at_ hk
  obtain ⟨ad0, e0, _, hc0⟩ := h.at_ (k := 0) (by omega)
  injection e0 with e0
  subst e0
  rw [add_nought] at hc0
  obtain ⟨bb, o, sp⟩ := ad
  have hsp : sp = none := cell_spotT hc0
  subst hsp
  have ha : (⟨bb, o, none⟩ : Addr).add k = ⟨bb, o + k, none⟩ := by
    unfold Addr.add
    by_cases hj : k = 0 <;> simp [hj]
  rw [ha] at hc
  exact ⟨bb, o, rfl, hb, hc⟩
theorem getD_mem {us : List Int} {k : Nat} (hk : k < us.length) : us.getD k 0 ∈ us := by
  rw [List.getD_eq_getElem?_getD, List.getElem?_eq_getElem hk]
  exact List.getElem_mem hk

/-- The uses are within their limits. -/
def UsesIn (us : List Int) : Prop := ∀ u ∈ us, 1 ≤ u ∧ u ≤ 100
def SomeIdx (n : Nat) (w : World) (e : Ending) (w' : World) : Prop := ∃ k : Nat, k < n ∧ e = .returned (.int .i64 k) ∧ w' = w
theorem isum_take_succ {us : List Int} {k : Nat} {u : Int} (h : us[k]? = some u) : isum (us.take (k + 1)) = isum (us.take k) + u := by
  rw [List.take_add_one, h, isum_append]
  show isum (us.take k) + (u + 0) = _
  omega
theorem isum_bd {us : List Int} (h : UsesIn us) : 0 ≤ isum us ∧ isum us ≤ 100 * us.length := by
  induction us with
  | nil => exact ⟨Int.le_refl _, Int.le_refl _⟩
  | cons u l ih =>
    have h1 := h u (List.mem_cons_self ..)
    have h2 := ih fun x hx => h x (List.mem_cons_of_mem _ hx)
    show 0 ≤ u + isum l ∧ u + isum l ≤ 100 * ((l.length + 1 : Nat) : Int)
    omega
theorem UsesIn.take {us : List Int} (h : UsesIn us) (k : Nat) : UsesIn (us.take k) := fun u hu => h u (List.mem_of_mem_take hu)
/-- What stands behind k rounds. -/
def outAt (n : Nat) (T : Int) (us : List Int) (k : Nat) : Rat := ((us.length : Int) : Rat) / ((1 : Int) : Rat) - unSub n T (us.take k)
theorem outAt_zero (n : Nat) (T : Int) (us : List Int) : outAt n T us 0 = ((us.length : Int) : Rat) / ((1 : Int) : Rat) := by
  unfold outAt unSub
  rw [List.take_zero]
  show _ - (0 : Rat) = _
  grind
theorem outAt_succ {n : Nat} {T : Int} {us : List Int} {k : Nat} {u : Int} (h : us[k]? = some u) : outAt n T us (k + 1) = outAt n T us k - powQ (one1 - (u : Rat) / (T : Rat)) n := by
  unfold outAt unSub
  rw [List.take_add_one, h, List.map_append, sumL_append]
  show _ - (_ + (powQ (one1 - (u : Rat) / (T : Rat)) n + 0)) = _
  grind
theorem share_small {u : Int} {T : Nat} (h1 : 1 ≤ u) (h2 : u ≤ (T : Int)) (hT : T < 1000000000) : (one1 - (u : Rat) / ((T : Int) : Rat)).num.natAbs < 1000000000 ∧ (one1 - (u : Rat) / ((T : Int) : Rat)).den < 1000000000 := by
  obtain ⟨k, rfl⟩ : ∃ k : Nat, u = (k : Int) := ⟨u.toNat, by omega⟩
  have hT0 : T ≠ 0 := by omega
  have hT' : (T : Rat) ≠ 0 := by exact_mod_cast hT0
  have e : one1 - ((k : Int) : Rat) / ((T : Int) : Rat) = frac false (T - k) T := by
    rw [frac_false]
    have h : ((T - k + k : Nat) : Rat) = (T : Rat) := by rw [Nat.sub_add_cancel (by omega)]
    rw [Rat.natCast_add] at h
    rw [Rat.intCast_natCast, Rat.intCast_natCast]
    show ((1 : Int) : Rat) / ((1 : Int) : Rat) - _ = _
    simp only [Rat.intCast_one, Rat.div_def]
    generalize ((T - k : Nat) : Rat) = A at *
    grind
  rw [e, frac_num hT0, frac_den hT0]
  have h1 := Nat.div_le_self (T - k) (Nat.gcd (T - k) T)
  have h2 := Nat.div_le_self T (Nat.gcd (T - k) T)
  omega
theorem outAt_fb {n T : Nat} {us : List Int} (hn : n ≤ 30) (hu : UsesIn us) (hm : ∀ u ∈ us, u ≤ (T : Int)) (hT : T < 1000000000) (hl : us.length ≤ 1000000) : ∀ k, k ≤ us.length → FB (outAt n (T : Int) us k) (3 + 32 * k)
  | 0, _ => by
    rw [outAt_zero]
    exact fb_i64 (by omega) (by omega)
  | k + 1, hk => by
    obtain ⟨u, hx⟩ : ∃ u, us[k]? = some u := ⟨_, List.getElem?_eq_getElem (by omega)⟩
    have hmem := List.mem_of_getElem? hx
    have hs := share_small (hu u hmem).1 (hm u hmem) hT
    rw [outAt_succ hx]
    exact (FB.sub (outAt_fb hn hu hm hT hl k (by omega)) (powQ_fb hs.1 hs.2 hn) (by omega)).mono (by omega)

end Go.Proofs.YtnedgbebajhcpaaGreatDoor
namespace Go.Proofs.YtnedgbebajhcpaaGreatDoor
open Go.RowKit Num

/-- The mean number of dies that are seen once, as the program reckons it. -/
def singlesQ (n D : Nat) : Rat := ((n : Int) : Rat) / ((1 : Int) : Rat) * powQ (one1 - ((1 : Int) : Rat) / ((D : Int) : Rat)) (n - 1)

end Go.Proofs.YtnedgbebajhcpaaGreatDoor
