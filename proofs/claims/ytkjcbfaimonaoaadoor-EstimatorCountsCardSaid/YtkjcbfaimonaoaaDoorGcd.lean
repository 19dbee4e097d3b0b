/- natural: Gcd. -/
import Derived.Test.YtkjcbfaimonaoaaDoorNatural
set_option linter.unusedVariables false
set_option linter.unusedSimpArgs false
set_option maxRecDepth 100000
namespace Go.Proofs.YtkjcbfaimonaoaaDoor
open Go.RowKit Num

set_option maxHeartbeats 1000000 in
theorem gcd_n {x y : Value} {a b : Nat} {w : World} (hx : NatV w x a) (hy : NatV w y b) (ha : (limbsOf a).length ≤ 2199023255552) (hb : (limbsOf b).length ≤ 2199023255552) :
    Calls Tryd.prog 72 #[.agg #[x], .agg #[y]] w (GivesN w (Nat.gcd a b)) := by
  go_enter Tryd.func72, Tryd.ntmps72
  go_wp2
  have hB := box3 w x y 30
  generalize ((w.alloc (.cells #[x] 30)).alloc (.cells #[y] 30)).alloc (.cells #[.slice none 0 0] 30) = W0 at *
  have hE0 : Ext W0 W0.drew := (Below.refl _ _).drew
  have hL0 : Below (w.heap.size + 1 + 1) W0 W0.drew := (Below.refl _ _).drew
  have hA0 : NatV W0.drew x a := (hx.below hB.ext).drew
  have hB0 : NatV W0.drew y b := (hy.below hB.ext).drew
  have HB := Lib.hid hB
  clear hB
  go_region_held3 (fun w' => w'.cell? ⟨w.heap.size, 0, none⟩ = some x ∧ w'.cell? ⟨w.heap.size + 1, 0, none⟩ = some y)
    (first | exact HB.out.rd _ hL2 | exact HB.out.rd _ hL1 | exact HB.out.rd _ hL0)
    (first
      | (go_at_call 68; (with_reducible refine (limbs_n hA0).mono ?_); rintro e w1 ⟨v1, rfl, h1, x1, n1⟩; have hL1 := HB.out.low hL0 x1)
      | (go_at_call 68; (with_reducible refine (limbs_n (hB0.below x1)).mono ?_); rintro e w2 ⟨v2, rfl, h2, x2, n2⟩; have hL2 := HB.out.low hL1 x2))
  have hE2 := (hE0.trans x1).trans x2
  have h1' := h1.below x2
  have hsz : W0.heap.size = w.heap.size + 1 + 1 + 1 := HB.out.size
  have n1' : New W0.heap.size v1 := n1.mono hE0.size
  have n2' : New W0.heap.size v2 := n2.mono (hE0.trans x1).size
  have HSZ := Lib.hid hsz
  clear hsz hL0 hL1 hL2 x1 h1 n1 n2 hA0 hB0 hE0
  go_wp2
  go_loopg [5, 6] b (fun g p q wr => ∃ a' : Nat, CanV wr p a' ∧ CanV wr q g ∧ New W0.heap.size p ∧ New W0.heap.size q ∧ Nat.gcd a' g = Nat.gcd a b ∧ (limbsOf a').length ≤ 2199023255552 ∧ (limbsOf g).length ≤ 2199023255552 ∧ Ext W0 wr)
  case atStart => exact ⟨a, h1', h2, n1', n2', rfl, ha, hb, hE2⟩
  case round =>
    obtain ⟨a', hp, hq, np, nq, hg, hla, hlb, hbr⟩ := hrel
    have HG := Lib.hid hg
    clear hg
    obtain ⟨A2, c2, rfl, q2, q3, _⟩ := id hq
    by_cases hz : gk = 0
    · subst hz
      have hl0 := limbs_zero_len (b := 0) rfl
      rw [hl0]
      have hlen := Lib.hid hl0
      clear hl0
      go_wp2_with fail
      refine (made_c hp np).mono ?_
      rintro e w3 ⟨A3, k3, c3, rfl, h3, x3, n3⟩
      obtain ⟨z3, zf3⟩ := HB.out.zc _ (hbr.trans x3)
      go_wp2
      refine bodyPost_ret (v := .agg #[.slice A3 k3 c3]) (by simp [results, Tryd.results72, go_sem, World.cell?_setCell_same _ _ _ z3]) rfl ?_
      have hg' := HG.out
      rw [Nat.gcd_zero_right] at hg'
      rw [← hg']
      exact ⟨_, _, _, rfl, HB.out.res (Below.refl _ _) h3 n3 _, HB.out.fin (hbr.trans x3) _, HB.out.new (Below.refl _ _) n3⟩
    · have hlp := limbs_pos_len (Nat.pos_of_ne_zero hz)
      go_wp2_with fail
      refine (divide_any np hbr.size hp hq (Nat.pos_of_ne_zero hz) hla).mono ?_
      rintro e w3 ⟨q, r, rfl, hqq, hr, x3, _, nr⟩
      go_wp2
      go_roundg (a' % gk)
      case rel => exact ⟨gk, hq.below x3, hr, nq, nr, by rw [Nat.gcd_comm, ← Nat.gcd_rec, Nat.gcd_comm]; exact HG.out, hlb, Nat.le_trans (limbsOf_length_mono (Nat.mod_le _ _)) hla, hbr.trans x3⟩
      case measure => exact Nat.mod_lt _ (Nat.pos_of_ne_zero hz)

end Go.Proofs.YtkjcbfaimonaoaaDoor
