/- Bytes have just the sum that the document tells, behind any sum; for every input. -/
import Derived.Test.YtgbhmcpaaempjaaPrx4
import Derived.Test.YtgbhmcpaaempjaaSums
namespace Go.Proofs.Ytgbhmcpaaempjaa.Pure
open Go.RowKit Go.Proofs.Ytgbhmcpaaempjaa.Pr Go.Proofs.YtgbhmcpaaempjaaW.PrintWords Go.Proofs.YtgbhmcpaaempjaaW.PrintLast
theorem low_mod (a : Int) : Go.bits .and .i64 a 65535 = a % 65536 := by
  have h64 : (2 : Nat) ^ IntKind.i64.bits = 18446744073709551616 := by decide
  have h65 : (BitVec.ofInt IntKind.i64.bits 65535).toNat = 2 ^ 16 - 1 := by decide
  simp only [bits, BitVec.toNat_and, h65]
  rw [Nat.and_two_pow_sub_one_eq_mod, BitVec.toNat_ofInt, h64, IntKind.wrap_i64]
  omega
theorem SumsSums : liverylaw15_SumsSums.Pure := by
  intro a l ha _ _ hw
  have hg := good_take (good_of hw) 300
  have hn := few_len l
  refine ⟨20000, ?_⟩
  have hput : liveryref15_Put.f (a % 65536) = sums_Put.f a := by
    unfold liveryref15_Put.f sums_Put.f
    rw [Int.tdiv_eq_ediv_of_nonneg (by omega), wrap_id (by omega) (by omega), Int.tmod_eq_emod_of_nonneg (by omega)]
    rw [show a % 65536 / 256 % 256 = a / 256 % 256 from by omega, show a % 65536 % 256 % 256 = a % 256 from by omega]
  have hofs : BitVec.ofInt 16 (a % 65536) = BitVec.ofInt 16 a := by
    apply BitVec.eq_of_toNat_eq
    rw [BitVec.toNat_ofInt, BitVec.toNat_ofInt]
    omega
  unfold liverylaw15_SumsSums.f liveryref15_Low.f
  rw [few_tells, Option.bind_some, Option.bind_some, low_mod, hput]
  rw [sums_Put.f, Option.bind_some, Option.bind_some, same_tells _ (by simp) _ (by omega), Option.bind_some]
  rw [sum_tells _ hg (by omega) _ (by omega), Option.bind_some, refsum_tells _ hg (by omega) _ (by omega), Option.bind_some, if_pos rfl]
  rw [more_tells _ hg (by omega) _ _ (by omega), Option.bind_some, refmore_tells _ hg (by omega) _ (by omega) (by omega) _ (by omega), Option.bind_some, hofs, if_pos rfl, if_pos rfl]
  rfl

end Go.Proofs.Ytgbhmcpaaempjaa.Pure
