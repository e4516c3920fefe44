-- A region that draws its order, whose operations read and whose callees only make memory of their own: one walk serves every order.
import Derived.Test.YtjoemkmckabpjaaPrx0
import Derived.BigQuiet
import Derived.WalkKit
namespace Go.Proofs.Ytjoemkmckabpjaa.Pr
open Go.RowKit Go.Proofs.YtjoemkmckabpjaaW.PrintWords Go.Proofs.YtjoemkmckabpjaaW.PrintLast Go.Proofs.YtjoemkmckabpjaaW.PrintMore
/-- A world behind W in which W's blocks stand as they were. -/
structure BW (W : World) where
  now : World
  ok : Below W.heap.size W now
instance bwNonempty (W : World) : Nonempty (BW W) := ⟨⟨W, Below.refl _ _⟩⟩
theorem wp_region_below {P : Program} {id : Nat} {Q : Exit → Act → World → Prop} {a : Act} {W : World} {l : List Oper} (hm : P.follows .mixedOrders = true) (hB : Region.lexB .any l.toArray = true)
    (h : wpQuiet P l.toArray (fun w' => ∃ u : BW W, w' = u.now) (fun a' => ∀ w', (∃ u : BW W, w' = u.now) → Q .normal a' w') l a) : (Code.region id l.toArray true).wp P Q a W :=
  wp_region_quiet (C := fun w' => ∃ u : BW W, w' = u.now) hm hB ⟨⟨_, below_drew1 (Below.refl W.heap.size W)⟩, rfl⟩ (by simpa using h)
theorem bw_cell {W : World} {a : Addr} {v : Value} (h : W.cell? a = some v) (u : BW W) : u.now.cell? a = some v := pw_cell_below u.ok h
theorem bw_call {P : Program} {f : FuncId} {args : Array Value} {W : World} {v : Value} {u : BW W} (h : Calls P f args u.now fun e w' => e = .returned v ∧ Below u.now.heap.size u.now w') : Calls P f args u.now fun e w'' => e = .returned v ∧ ∃ u' : BW W, w'' = u'.now :=
  h.mono fun _ w' ⟨he, hb⟩ => ⟨he, ⟨w', below_step u.ok hb⟩, rfl⟩
theorem bw_alloc {w : World} {a : Addr} {v : Value} (h : w.cell? a = some v) (o : Obj) : (w.alloc o).cell? a = some v := pw_cell_below (below_alloc (Below.refl _ _) o) h
end Go.Proofs.Ytjoemkmckabpjaa.Pr
