-- The law TimersOne, as its row takes it.
import Derived.Test.YtjoemkmckabpjaaOpen
import Derived.Test.YtjoemkmckabpjaaTmOne
namespace Go.Proofs.Ytjoemkmckabpjaa.Pr
open Go.RowKit Go.Proofs.YtjoemkmckabpjaaW.PrintWords Go.Proofs.YtjoemkmckabpjaaW.PrintLast Go.Proofs.YtjoemkmckabpjaaW.PrintMore
set_option linter.unusedVariables false
open Classical in
/-- The law's answer where its arguments are such as Go can have. -/
noncomputable def liverylaw14_TimersOne.f (k : Nat) (l0 : List Deed) (kind a b : Int) : Option Bool := if (∀ d ∈ l0, okDeed d) ∧ okI kind then some true else none
theorem liverylaw14_TimersOne.calls (k : Nat) (A0 : Option Addr) (c0 : Nat) (l0 : List Deed) (kind a b : Int) (r : Bool) (w : World) (hr0 : Kd.C kDeed w A0 l0.length l0) (hc0 : l0.length ≤ c0) (h : liverylaw14_TimersOne.f k l0 kind a b = some r) :
    Calls Try.prog 5 #[.slice A0 l0.length c0, .int .i64 kind, .int .i64 a, .int .i64 b] w fun e w' => e = .returned (.bool r) ∧ Below w.heap.size w w' := by
  unfold liverylaw14_TimersOne.f at h
  split at h
  · rename_i hok
    obtain rfl := Option.some.inj h
    exact one_walk w A0 c0 l0 kind a b hok.2 hr0 hc0 hok.1
  · cases h
theorem timersOne_true (l0 : List Deed) (kind a b : Int) (h : ∀ d ∈ l0, okDeed d) (hkind : okI kind) (ha : okI a) (hb : okI b) : ∃ K, ∀ k, K ≤ k → liverylaw14_TimersOne.f k l0 kind a b = some true := ⟨0, fun k _ => if_pos ⟨h, hkind⟩⟩
end Go.Proofs.Ytjoemkmckabpjaa.Pr
