-- The law TimersInOrder, as its row takes it.
import Derived.Test.YtjoemkmckabpjaaOpen
import Derived.Test.YtjoemkmckabpjaaTmInOrder
namespace Go.Proofs.Ytjoemkmckabpjaa.Pr
open Go.RowKit Go.Proofs.YtjoemkmckabpjaaW.PrintWords Go.Proofs.YtjoemkmckabpjaaW.PrintLast Go.Proofs.YtjoemkmckabpjaaW.PrintMore
set_option linter.unusedVariables false
open Classical in
/-- The law's answer where its arguments are such as Go can have. -/
noncomputable def liverylaw14_TimersInOrder.f (k : Nat) (l0 : List Deed) (now : Int) : Option Bool := if (∀ d ∈ l0, okDeed d) then some true else none
theorem liverylaw14_TimersInOrder.calls (k : Nat) (A0 : Option Addr) (c0 : Nat) (l0 : List Deed) (now : Int) (r : Bool) (w : World) (hr0 : Kd.C kDeed w A0 l0.length l0) (hc0 : l0.length ≤ c0) (h : liverylaw14_TimersInOrder.f k l0 now = some r) :
    Calls Try.prog 3 #[.slice A0 l0.length c0, .int .i64 now] w fun e w' => e = .returned (.bool r) ∧ Below w.heap.size w w' := by
  unfold liverylaw14_TimersInOrder.f at h
  split at h
  · rename_i hok
    obtain rfl := Option.some.inj h
    exact inorder_walk w A0 c0 l0 now hr0 hc0 hok
  · cases h
theorem timersInOrder_true (l0 : List Deed) (now : Int) (h : ∀ d ∈ l0, okDeed d) (hnow : okI now) : ∃ K, ∀ k, K ≤ k → liverylaw14_TimersInOrder.f k l0 now = some true := ⟨0, fun k _ => if_pos h⟩
end Go.Proofs.Ytjoemkmckabpjaa.Pr
