-- The law TimersOwns, as its row takes it.
import Derived.Test.YtjoemkmckabpjaaOpen
import Derived.Test.YtjoemkmckabpjaaTmOwns
namespace Go.Proofs.Ytjoemkmckabpjaa.Pr
open Go.RowKit Go.Proofs.YtjoemkmckabpjaaW.PrintWords Go.Proofs.YtjoemkmckabpjaaW.PrintLast Go.Proofs.YtjoemkmckabpjaaW.PrintMore
set_option linter.unusedVariables false
open Classical in
/-- The law's answer where its argument is one that Go can have. -/
noncomputable def liverylaw14_TimersOwns.f (k : Nat) (l0 : List Deed) : Option Bool := if ∀ d ∈ l0, okDeed d then some true else none
theorem liverylaw14_TimersOwns.calls (k : Nat) (A0 : Option Addr) (c0 : Nat) (l0 : List Deed) (r : Bool) (w : World) (hr0 : Kd.C kDeed w A0 l0.length l0) (hc0 : l0.length ≤ c0) (h : liverylaw14_TimersOwns.f k l0 = some r) :
    Calls Try.prog 6 #[.slice A0 l0.length c0] w fun e w' => e = .returned (.bool r) ∧ Below w.heap.size w w' := by
  unfold liverylaw14_TimersOwns.f at h
  split at h
  · rename_i hok
    obtain rfl := Option.some.inj h
    exact owns_walk w A0 c0 l0 hr0 hc0 hok
  · cases h
theorem timersOwns_true (l0 : List Deed) (h : ∀ d ∈ l0, okDeed d) : ∃ K, ∀ k, K ≤ k → liverylaw14_TimersOwns.f k l0 = some true := ⟨0, fun k _ => if_pos h⟩
end Go.Proofs.Ytjoemkmckabpjaa.Pr
