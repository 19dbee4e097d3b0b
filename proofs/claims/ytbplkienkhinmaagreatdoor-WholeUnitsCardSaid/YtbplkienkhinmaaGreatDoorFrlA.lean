/- Lists of fractions that grow by append; fraction.Sum. -/
import Derived.Test.YtbplkienkhinmaaGreatDoorFrl
import Derived.Test.YtbplkienkhinmaaGreatDoorFracS
import Derived.Test.YtbplkienkhinmaaGreatDoorFres
set_option linter.unusedVariables false
set_option linter.unusedSimpArgs false
set_option maxRecDepth 100000
namespace Go.Proofs.YtbplkienkhinmaaGreatDoor
open Go.RowKit Num

theorem info_frac : (Tryz.prog.info? 27).map (fun i => (i.zero, i.size, i.bytes)) = some (some (.agg #[.bool false, .slice none 0 0, .slice none 0 0]), 3, 56) := by kernel_rfl
theorem cell_three (W : World) (x y z : Value) (t : TypeId) : ∀ j u, [x, y, z][j]? = some u → (W.alloc (.cells #[x, y, z] t)).cell? ((⟨W.heap.size, 0, none⟩ : Addr).add j) = some u := by
  intro j u hu
  match j, hu with
  | 0, hu => simp at hu; subst hu; simp [Addr.add, go_sem]
  | 1, hu => simp at hu; subst hu; simp [Addr.add, go_sem]
  | 2, hu => simp at hu; subst hu; simp [Addr.add, go_sem]
section
variable {e : TypeId} {base B : Nat} {w w' w1 : World} {v v' : Value} {ts : List Fc} {qs : List Rat} {t : Fc} {q : Rat}
theorem OwnF.grow (h : OwnF e base B w v ts qs) (hE : Ext w w1) (hu : FracV w1 t.neg t.num t.den q) (hn1 : New w.heap.size t.num) (hn2 : New w.heap.size t.den) (hB : B ≤ w.heap.size) (hown : w'.ownsRow base e 3 v' (qs.length + 1) (fcells ts ++ [.bool t.neg, t.num, t.den])) (hg : w1.grownBy w' v.ownBlock) (hw : v'.ownBlock = v.ownBlock ∨ New w1.heap.size v') :
    OwnF e base B w' v' (ts ++ [t]) (qs ++ [q]) :=
  (h.ext hE).push hu (Far.of_new hn1 fun g hg => (h.1.1.lt g hg).2) (Far.of_new hn2 fun g hg => (h.1.1.lt g hg).2) (hn1.mono hB) (hn2.mono hB) hown hg hw
theorem OwnF.grow_ext {W : World} (h : OwnF e W.heap.size B w v ts qs) (hx : Ext W w) (hE : Ext w w1) (hg : w1.grownBy w' v.ownBlock) : Ext W w' :=
  Below.grown (Ext.trans hx hE) hg (by have := hx.size; have := hE.size; omega) fun k hk => (h.1.1.lt k hk).1
end
/-- A list of fractions as an answer. -/
def GivesFL (w : World) (qs : List Rat) (e : Ending) (w' : World) : Prop := ∃ A c, e = .returned (.tuple #[.slice A qs.length c, .int .i64 0]) ∧ FracsV w.heap.size w' (.slice A qs.length c) qs ∧ Ext w w' ∧ New w.heap.size (.slice A qs.length c)
def uptoQ (f : Nat → Rat) (k : Nat) : List Rat := (List.range k).map f
theorem uptoQ_succ (f : Nat → Rat) (k : Nat) : uptoQ f (k + 1) = uptoQ f k ++ [f k] := by simp [uptoQ, List.range_succ]
theorem uptoQ_length (f : Nat → Rat) (k : Nat) : (uptoQ f k).length = k := by simp [uptoQ]
theorem uptoQ_at {f : Nat → Rat} {n k : Nat} (h : k < n) : (uptoQ f n)[k]? = some (f k) := by unfold uptoQ; rw [List.getElem?_map, List.getElem?_range h]; rfl

end Go.Proofs.YtbplkienkhinmaaGreatDoor
