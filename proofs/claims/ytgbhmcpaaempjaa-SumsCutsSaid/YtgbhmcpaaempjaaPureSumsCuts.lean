/- However bytes are cut, it is the sum of all; for every input. -/
import Derived.Test.YtgbhmcpaaempjaaPrx5
import Derived.Test.YtgbhmcpaaempjaaSums
namespace Go.Proofs.Ytgbhmcpaaempjaa.Pure
open Go.RowKit Go.Proofs.Ytgbhmcpaaempjaa.Pr Go.Proofs.YtgbhmcpaaempjaaW.PrintWords Go.Proofs.YtgbhmcpaaempjaaW.PrintLast
theorem bits_app (a b : List Int) : bitsL (a ++ b) = bitsL a ++ bitsL b := by unfold bitsL; rw [List.flatMap_append]
theorem back (r : BitVec 16) : BitVec.ofInt 16 (r.toNat : Int) = r := by
  apply BitVec.eq_of_toNat_eq
  rw [BitVec.toNat_ofInt]
  have := r.isLt
  omega
theorem cuts_j0 (l : List Int) (hg : Good l) (hn : l.length ≤ 300) (a : Int) (ha : 0 ≤ a) : liverylaw15_SumsCuts.j0 20000 l a = some true := by
  have e : wrap64 ((l.length : Int) + 1) = ((l.length + 1 : Nat) : Int) := by rw [wrap_id (by omega) (by omega)]; omega
  have hm : Int.tmod a ((l.length + 1 : Nat) : Int) = a % ((l.length + 1 : Nat) : Int) := Int.tmod_eq_emod_of_nonneg ha
  have h0 : 0 ≤ a % ((l.length + 1 : Nat) : Int) := Int.emod_nonneg _ (by omega)
  have h1 : a % ((l.length + 1 : Nat) : Int) < ((l.length + 1 : Nat) : Int) := Int.emod_lt_of_pos _ (by omega)
  rw [show (20000 : Nat) = 19999 + 1 from rfl, liverylaw15_SumsCuts.j0, e, hm, if_neg (by omega), if_pos h0, if_pos (by omega)]
  generalize (a % ((l.length + 1 : Nat) : Int)).toNat = n
  have hs := sum_tells l hg (by omega) 19999 (by omega)
  rw [sum_tells _ (good_take hg n) (by rw [List.length_take]; omega) _ (by omega), Option.bind_some, more_tells _ (good_drop hg n) (by rw [List.length_drop]; omega) _ _ (by omega), Option.bind_some, hs, Option.bind_some, back]
  rw [← crc_append, ← bits_app, List.take_append_drop, if_pos rfl, Option.bind_some, more_tells [] (fun _ h => by simp at h) (by simp) _ _ (by omega), Option.bind_some, Option.bind_some, back, if_pos (by rfl)]
  rfl
theorem SumsCuts : liverylaw15_SumsCuts.Pure := by
  intro l a _ _ hw ha
  have hg := good_take (good_of hw) 300
  have hn := few_len l
  have hmin : IntKind.i64.min = -9223372036854775808 := rfl
  have hmax : IntKind.i64.max = 9223372036854775807 := rfl
  simp [Lit.wf] at ha
  refine ⟨20000, ?_⟩
  unfold liverylaw15_SumsCuts.f
  rw [few_tells, Option.bind_some]
  by_cases h : a < 0
  · rw [if_pos h, wrap_id (n := a + 1) (by omega) (by omega), wrap_id (by omega) (by omega)]
    exact cuts_j0 _ hg hn _ (by omega)
  · rw [if_neg h]
    exact cuts_j0 _ hg hn _ (by omega)

end Go.Proofs.Ytgbhmcpaaempjaa.Pure
