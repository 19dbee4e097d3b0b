/- Arguments that came in: a Fraction. -/
import Derived.Test.YtbplkienkhinmaaGreatDoorKeep
import Derived.Test.YtbplkienkhinmaaGreatDoorFrac
set_option linter.unusedVariables false
set_option linter.unusedSimpArgs false
namespace Go.Proofs.YtbplkienkhinmaaGreatDoor
open Go.RowKit Num Go.ChangeShapes Go.Deep

/-- A Fraction that came in: its sign, so many limbs of those values. -/
structure FracIn where
  neg : Bool
  nl : Nat
  nv : Nat
  dl : Nat
  dv : Nat
def KFrac (w : World) (v : Value) (z : FracIn) : Prop := ∃ s t, v = .agg #[.bool z.neg, s, t] ∧ KLimbs w s z.nl z.nv ∧ KLimbs w t z.dl z.dv
theorem val_raw : ∀ {xs : List Nat}, (∀ x ∈ xs, x < 4294967296) → val xs + 5 ≤ 5 * 1000000000 ^ xs.length
  | [], _ => by decide
  | x :: t, h => by
    have ih := val_raw (xs := t) fun y hy => h y (List.mem_cons_of_mem _ hy)
    have hx := h x List.mem_cons_self
    have e : val (x :: t) = x + 1000000000 * val t := rfl
    rw [e, List.length_cons, Nat.pow_succ]
    omega
/-- Limbs that came in may be any numbers of 32 bits: at most one limb more when brought into form. -/
theorem KLimbs.len {w : World} {s : Value} {m n : Nat} (h : KLimbs w s m n) : (limbsOf n).length ≤ m + 1 := by
  obtain ⟨xs, h1, h2, rfl, rfl⟩ := h
  have := val_raw h2
  refine limbsOf_length_le ?_
  have hp : 0 < 1000000000 ^ xs.length := Nat.pow_pos (by omega)
  rw [Nat.pow_succ]
  omega
theorem KLimbs.len_le {w : World} {s : Value} {m n : Nat} (h : KLimbs w s m n) {L : Nat} (hm : m ≤ L) : (limbsOf n).length ≤ L + 1 := Nat.le_trans h.len (by omega)
theorem KFrac.any {w : World} {z : FracIn} {s t : Value} (hs : KLimbs w s z.nl z.nv) (ht : KLimbs w t z.dl z.dv) {L : Nat} (h1 : z.nl ≤ L) (h2 : z.dl ≤ L) (hL : L ≤ 1000) : AnyF w z.neg s t (frac z.neg z.nv z.dv) (L + 1) :=
  AnyF.mk (hs.nat (by omega)) (ht.nat (by omega)) (hs.len_le h1) (ht.len_le h2)

section
variable {H : Type} {enc : TypeId × Value → H} {W : World} {spare : Nat → Bool} {held : Bool}
set_option maxRecDepth 100000 in
theorem opened_frac {v : Value} {d : DataW H} {ps : List MemPlace} {r : Reach} {b : Nat} (hval : Value.okWide Tryz.prog W r b 27 v) (h : DataW.Trod enc Tryz.prog W 0 spare held 27 v d ps) : ∃ z : FracIn, KFrac W v z := by
  obtain ⟨cs, rfl, hsz⟩ := WideShapes.okWide_struct Tryz.underlying27 hval
  obtain ⟨l⟩ := cs
  match l, hsz.trans (show Tryz.prog.cellsOf 27 = 3 by kernel_rfl) with
  | [c0, c1, c2], _ =>
    obtain ⟨fuel, hf⟩ := h
    obtain ⟨xs, n, _, hx, _, hlen, hg⟩ := DataW.trod_struct Tryz.underlying27 hf
    match xs, hlen with
    | [y0, y1, y2], _ =>
      have g0 := hg 0 _ rfl
      have g1 := hg 1 _ rfl
      have g2 := hg 2 _ rfl
      have e0 : DataW.trod enc Tryz.prog W 0 spare held n 4 [c0] = some y0 := g0
      have e1 : DataW.trod enc Tryz.prog W 0 spare held n 25 [c1] = some y1 := g1
      have e2 : DataW.trod enc Tryz.prog W 0 spare held n 25 [c2] = some y2 := g2
      obtain ⟨b0, hb, _⟩ := DataW.trod_bool Tryz.underlying4 e0
      obtain ⟨m, k, h1⟩ := cell_nat e1
      obtain ⟨m', k', h2⟩ := cell_nat e2
      have hb' : c0 = .bool b0 := by simpa using hb
      subst hb'
      exact ⟨⟨b0, m, k, m', k'⟩, c1, c2, rfl, h1, h2⟩
end

section
variable {H : Type} {enc : TypeId × Value → H} {P : Program} {w : World} {base : Nat} {spare : Nat → Bool} {held : Bool}
/-- A struct of two integers. -/
theorem opened_int2 {r : Reach} {b0 : Nat} {t e : TypeId} {f0 f1 : Field} {v : Value} {d : DataW H} {p : List MemPlace} (hs : P.underlying t = some (.struct #[f0, f1])) (hone : oneCellFields P #[f0, f1] = true) (hC : P.cellsOf t = 2)
    (he : P.underlying e = some (.int .i64)) (h0 : f0.type = e) (h1 : f1.type = e) (hv : Value.okWide P w r b0 t v) (h : DataW.Trod enc P w base spare held t v d p) :
    ∃ z : Int × Int, v = .agg #[.int .i64 z.1, .int .i64 z.2] ∧ (Lit.int .i64 z.1).wf = true ∧ (Lit.int .i64 z.2).wf = true := by
  obtain ⟨c0, c1, y0, y1, m, rfl, _, _, g0, g1⟩ := Go.Joins.open_agg2 hs hone hC hv h
  rw [h0] at g0; rw [h1] at g1
  obtain ⟨a, e0, _, w0⟩ := DataW.trod_int he g0
  obtain ⟨b, e1, _, w1⟩ := DataW.trod_int he g1
  simp only [List.cons.injEq, and_true] at e0 e1
  subst e0 e1
  exact ⟨(a, b), rfl, w0, w1⟩
/-- A struct of three integers. -/
theorem opened_int3 {r : Reach} {b0 : Nat} {t e : TypeId} {f0 f1 f2 : Field} {v : Value} {d : DataW H} {p : List MemPlace} (hs : P.underlying t = some (.struct #[f0, f1, f2])) (hone : oneCellFields P #[f0, f1, f2] = true) (hC : P.cellsOf t = 3)
    (he : P.underlying e = some (.int .i64)) (h0 : f0.type = e) (h1 : f1.type = e) (h2 : f2.type = e) (hv : Value.okWide P w r b0 t v) (h : DataW.Trod enc P w base spare held t v d p) :
    ∃ z : Int × Int × Int, v = .agg #[.int .i64 z.1, .int .i64 z.2.1, .int .i64 z.2.2] ∧ (Lit.int .i64 z.1).wf = true ∧ (Lit.int .i64 z.2.1).wf = true ∧ (Lit.int .i64 z.2.2).wf = true := by
  obtain ⟨c0, c1, c2, y0, y1, y2, m, rfl, _, _, g0, g1, g2⟩ := Go.Joins.open_agg3 hs hone hC hv h
  rw [h0] at g0; rw [h1] at g1; rw [h2] at g2
  obtain ⟨a, e0, _, w0⟩ := DataW.trod_int he g0
  obtain ⟨b, e1, _, w1⟩ := DataW.trod_int he g1
  obtain ⟨c, e2, _, w2⟩ := DataW.trod_int he g2
  simp only [List.cons.injEq, and_true] at e0 e1 e2
  subst e0 e1 e2
  exact ⟨(a, b, c), rfl, w0, w1, w2⟩
end

end Go.Proofs.YtbplkienkhinmaaGreatDoor
