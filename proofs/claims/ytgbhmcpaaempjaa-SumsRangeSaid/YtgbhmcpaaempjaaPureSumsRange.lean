/- A sum is 0 to 65535, and what is handed in stays; for every input. -/
import Derived.Test.YtgbhmcpaaempjaaPrx8
import Derived.Test.YtgbhmcpaaempjaaSums
namespace Go.Proofs.Ytgbhmcpaaempjaa.Pure
open Go.RowKit Go.Proofs.Ytgbhmcpaaempjaa.Pr Go.Proofs.YtgbhmcpaaempjaaW.PrintWords Go.Proofs.YtgbhmcpaaempjaaW.PrintLast
theorem SumsRange : liverylaw15_SumsRange.Pure := by
  intro a l ha _ _ hw
  have hg := good_take (good_of hw) 300
  have hn := few_len l
  refine ⟨20000, ?_⟩
  have hm := more_tells _ hg (by omega) a 20000 (by omega)
  have hb := more_lt (BitVec.ofInt 16 a) (bitsL (l.take 300))
  unfold liverylaw15_SumsRange.f
  rw [few_tells, Option.bind_some, if_pos (by simp only [List.length_nil]; omega), hm, Option.bind_some, List.nil_append, same_tells _ (by omega) _ (by omega), Option.bind_some, if_pos hb.1, if_pos hb.2, if_pos rfl]
  rw [sums_Put.f, Option.bind_some, if_pos (by simp)]
  rfl

end Go.Proofs.Ytgbhmcpaaempjaa.Pure
