/- Regions that draw their order and whose callees may lay new memory: one walk of the text's order, in the class of the worlds that are as W was. -/
import Derived.Test.YtnpkhkfhlpopbaaBase
import Derived.BigQuiet
namespace Go.Proofs.Ytnpkhkfhlpopbaa
set_option linter.unusedSimpArgs false
set_option linter.unusedVariables false
open Go.RowKit

/-- A world in which all that lay in W is as it was. -/
structure Bel (W : World) where
  u : World
  h : Below W.heap.size W u
instance (W : World) : Nonempty (Bel W) := ⟨⟨W, Below.refl _ _⟩⟩
theorem Bel.cell {W : World} {b j : Nat} {v : Value} (hb : b < W.heap.size) (h : W.cell? ⟨b, j, none⟩ = some v) : ∀ x : Bel W, x.u.cell? ⟨b, j, none⟩ = some v := fun x => (x.h.cell (p := ⟨b, j, none⟩) hb).trans h
theorem wp_region_bel {P : Program} {id : Nat} {Q : Exit → Act → World → Prop} {a : Act} {w : World} {l : List Oper} (hm : P.follows .mixedOrders = true) (hB : Region.lexB .any l.toArray = true)
    (W : World) (hW : Below W.heap.size W w.drew) (h : wpQuiet P l.toArray (fun u => ∃ x : Bel W, u = x.u) (fun a' => ∀ u, (∃ x : Bel W, u = x.u) → Q .normal a' u) l a) :
    (Code.region id l.toArray true).wp P Q a w :=
  wp_region_quiet (C := fun u => ∃ x : Bel W, u = x.u) hm hB ⟨⟨_, hW⟩, rfl⟩ (by simpa using h)

end Go.Proofs.Ytnpkhkfhlpopbaa
