/- The law's own part of the proof. No conditions. -/
import Derived.OrdersHeld
import Derived.Deep.RegionHeld3
import Derived.Laws.BitsLemmas
import Derived.RowKit
import Derived.Shelf.SlSortCmp.NoneTotal
import Derived.WalkKit
import Derived.WalkSpells
import Derived.Lib.Hide
import Derived.DeepKeys4
import Derived.KernelRfl
import Derived.WalkLawsBesides
import Derived.Deep.QuietTactic
import Derived.Deep.RegionWith
import Derived.BigQuiet
import Derived.RegionTactic
import Derived.ChangeAlike
import Derived.Deep.RegionLaw
import Derived.Lib.SmallJoins
import Derived.Lib.SlicesS
import Derived.Laws.StructEq
import Derived.Shelf.SlicesE.Clone
import Derived.Test.YtpjddgmdgfjlfaaDoorProg
import Derived.Below
import Derived.Deep.Draws
import Derived.Deep.AppendLies
import Derived.Maps.AppendAt
import Derived.OwnWalk
import Derived.Laws.BytesArg
import Derived.Laws.MakeOwn
import Derived.Laws.OwnMore
import Derived.Tactics
import Derived.Lib.ConvBytes
import Derived.Laws.Slices
import Derived.RowKit3
import Derived.Deep.LoopGhost
import Derived.WideLaws
import Derived.Deep.DeepCutAuto
import Derived.Deep.CutBlock
import Derived.Lib.AppendStr
import Derived.ArgAppend
import Derived.Laws.IdiomCopy
import Derived.ProofKit
import Derived.ChangeSlices
import Derived.DataElems
import Derived.Shelf.SlicesG.Cmp
import Derived.StillTailTactics
import Derived.Sort.Grow
import Derived.Outline
import Derived.Laws.RangeAny
import Derived.Laws.Closers25
import Derived.Sort.LotA
import Derived.Laws.Strings
import Derived.OpenShut
import Derived.ShutString
import Derived.ChangeOld
import Derived.SizedLaws
import Derived.LaidMore
import Derived.Stop.Joined
import Derived.SevenTiedAt
import Derived.Carry
import Derived.Shelf.SlSortCmp.WholeK
import Derived.Ground.SlsfProg
import Derived.Ground.SlgnProg
import Derived.Shelf.GgSortFunc.InsertionK
import Derived.Maps.OwnSet
import Derived.Maps.RangeRun
import Derived.Maps.Range
import Derived.Sort.Walk0
import Derived.Ground.SlgcProg
import Derived.Test.YtpjddgmdgfjlfaaDoorPb0
import Derived.Test.YtpjddgmdgfjlfaaDoorPb1
import Derived.Test.YtpjddgmdgfjlfaaDoorPb2
import Derived.Test.YtpjddgmdgfjlfaaDoorPb3
import Derived.Test.YtpjddgmdgfjlfaaDoorPb4
import Derived.Test.YtpjddgmdgfjlfaaDoorPb5
import Derived.Test.YtpjddgmdgfjlfaaDoorPb6
import Derived.Test.YtpjddgmdgfjlfaaDoorPb7
import Derived.Test.YtpjddgmdgfjlfaaDoorPb8
import Derived.Test.YtpjddgmdgfjlfaaDoorPb9
import Derived.Test.YtpjddgmdgfjlfaaDoorPb10
import Derived.Test.YtpjddgmdgfjlfaaDoorPb11
import Derived.Test.YtpjddgmdgfjlfaaDoorPb12
import Derived.Test.YtpjddgmdgfjlfaaDoorPb13
import Derived.Test.YtpjddgmdgfjlfaaDoorPb14
section
namespace Go.Proofs.YtpjddgmdgfjlfaaDoor.Pr
open Go.RowKit Go.Proofs.YtpjddgmdgfjlfaaDoorW.PrintWords Go.Proofs.YtpjddgmdgfjlfaaDoorW.PrintLast Go.Proofs.YtpjddgmdgfjlfaaDoorW.PrintMore
attribute [local go_sem] QaY QaW Qbb Qba QaP QaO QaX QaV
set_option linter.unusedVariables false
set_option linter.unusedSimpArgs false

end Go.Proofs.YtpjddgmdgfjlfaaDoor.Pr
end
section
namespace Go.Proofs.YtpjddgmdgfjlfaaDoor.Pr
open Go.RowKit Go.Proofs.YtpjddgmdgfjlfaaDoorW.PrintWords Go.Proofs.YtpjddgmdgfjlfaaDoorW.PrintLast Go.Proofs.YtpjddgmdgfjlfaaDoorW.PrintMore
attribute [local go_sem] QaY QaW Qbb Qba QaP QaO QaX QaV
set_option linter.unusedVariables false
set_option linter.unusedSimpArgs false
attribute [local go_sem high] eqA33

end Go.Proofs.YtpjddgmdgfjlfaaDoor.Pr
end
section
namespace Go.Proofs.YtpjddgmdgfjlfaaDoor.Pr
open Go.RowKit Go.Proofs.YtpjddgmdgfjlfaaDoorW.PrintWords Go.Proofs.YtpjddgmdgfjlfaaDoorW.PrintLast Go.Proofs.YtpjddgmdgfjlfaaDoorW.PrintMore
attribute [local go_sem] QaY QaW Qbb Qba QaP QaO QaX QaV
set_option linter.unusedVariables false
set_option linter.unusedSimpArgs false
def liverylaw06_SolveClosed.f (k : Nat) (l0 : List (S46)) : Option (Bool) := (Qa5.f l0).bind fun t101 => ((Qa1.f t101).bind fun t104 => ((Qas.f k t104).bind fun t107 => ((Qax.f k t101).bind fun t110 => ((QaG.f k t110 t107).bind fun t113 => (if (t113.length : Int) = (t107.length : Int) then ((QaH.f k).bind fun t116 => (some t116)) else (some false))))))
set_option maxHeartbeats 8000000 in
set_option maxRecDepth 100000 in
theorem liverylaw06_SolveClosed.calls (k : Nat) (A0 : Option Addr) (c0 : Nat) (l0 : List (S46)) (r : Bool) (w : World) (hr0 : Kd.C k46 w A0 l0.length l0) (hc0 : l0.length ≤ c0) (h : liverylaw06_SolveClosed.f k l0 = some r) :
  Calls Tryd.prog 5 #[.slice A0 l0.length c0] w fun e w' => e = .returned (.bool r) ∧ Below w.heap.size w w' := by
 have HR0 := Qad.mk hr0; have HC0 := Qad.mk hc0; clear hr0 hc0; have HB := Qad.mk (Below.refl w.heap.size w); have H : ((Qa5.f l0).bind fun t101 => ((Qa1.f t101).bind fun t104 => ((Qas.f k t104).bind fun t107 => ((Qax.f k t101).bind fun t110 => ((QaG.f k t110 t107).bind fun t113 => (if (t113.length : Int) = (t107.length : Int) then ((QaH.f k).bind fun t116 => (some t116)) else (some false))))))) = some r := h; clear h; replace H := Option.bind_eq_some_iff.mp H; obtain ⟨t101, A20, H⟩ := H; replace H : ((Qa1.f t101).bind fun t104 => ((Qas.f k t104).bind fun t107 => ((Qax.f k t101).bind fun t110 => ((QaG.f k t110 t107).bind fun t113 => (if (t113.length : Int) = (t107.length : Int) then ((QaH.f k).bind fun t116 => (some t116)) else (some false)))))) = some r := H; have A2 := Qad.mk A20; clear A20; replace H := Option.bind_eq_some_iff.mp H; obtain ⟨t104, A30, H⟩ := H; replace H : ((Qas.f k t104).bind fun t107 => ((Qax.f k t101).bind fun t110 => ((QaG.f k t110 t107).bind fun t113 => (if (t113.length : Int) = (t107.length : Int) then ((QaH.f k).bind fun t116 => (some t116)) else (some false))))) = some r := H; have A3 := Qad.mk A30; clear A30; replace H := Option.bind_eq_some_iff.mp H; obtain ⟨t107, A40, H⟩ := H; replace H : ((Qax.f k t101).bind fun t110 => ((QaG.f k t110 t107).bind fun t113 => (if (t113.length : Int) = (t107.length : Int) then ((QaH.f k).bind fun t116 => (some t116)) else (some false)))) = some r := H
 have A4 := Qad.mk A40; clear A40; replace H := Option.bind_eq_some_iff.mp H; obtain ⟨t110, A50, H⟩ := H; replace H : ((QaG.f k t110 t107).bind fun t113 => (if (t113.length : Int) = (t107.length : Int) then ((QaH.f k).bind fun t116 => (some t116)) else (some false))) = some r := H; have A5 := Qad.mk A50; clear A50; replace H := Option.bind_eq_some_iff.mp H; obtain ⟨t113, A60, H⟩ := H; replace H : (if (t113.length : Int) = (t107.length : Int) then ((QaH.f k).bind fun t116 => (some t116)) else (some false)) = some r := H; have A6 := Qad.mk A60; clear A60
 by_cases c7 : (t113.length : Int) = (t107.length : Int)
 ·rw [if_pos c7] at H; have c7b0 : ((t113.length : Int) == (t107.length : Int)) = true := beq_iff_eq.mpr c7; have c7b1 : ((t113.length : Int) != (t107.length : Int)) = false := bne_eq_false_iff_eq.mpr c7
  have c7b2 : (t113.length == t107.length) = true := by first | simpa using c7 | (simp at c7 ⊢; omega)
  clear c7; replace H := Option.bind_eq_some_iff.mp H; obtain ⟨t116, A80, H⟩ := H; replace H : (some t116) = some r := H; have A8 := Qad.mk A80; clear A80; obtain rfl := Option.some.inj H; go_enter Tryd.func5, Tryd.ntmps5
  go_wp2_with (first | ((with_reducible refine Qaz (f := 9) rfl ?_); refine Qbd (some 6) rfl rfl Tryd.func9 (by kernel_rfl) rfl #[.slice A0 l0.length c0] rfl (by (try simp only [List.map_toArray, List.map_cons, List.map_nil]); first | done | rfl | (simp only [List.length_drop, List.length_take]; rfl)) ?_; (with_reducible refine (Qa5.calls (fun k_ => k_ < w.heap.size) _ _ l0 t101 _ ?side1 A2.out).mono ?_); (case side1 => exact Kd.V_mk HC0.out (Kd.F_below (Kd.C_F k46_heap HR0.out) (by repeat (first | (with_reducible first | exact HB.out | apply Qac | apply Qaa | apply Qab) | exact HB.out)))); rintro e w9 ⟨v102, rfl, ho0, hb⟩; refine ⟨_, rfl, ?_⟩; have n0_ := Qad.mk (Kd.V_lower (Kd.V_mono (ok' := fun k_ => True) ho0 (fun k_ hk_ => trivial)) (Qap (by repeat (first | (with_reducible first | exact HB.out | apply Qac | apply Qaa | apply Qab) | exact HB.out)))); have n1_ := Qad.mk (Qal (by repeat (first | (with_reducible first | exact HB.out | apply Qac | apply Qaa | apply Qab) | exact HB.out)) hb); clear HB; have HO103 := n0_; have HB := n1_; clear n0_ n1_; (try clear hb); (try clear hb2); (try clear hk); (try clear hi); (try clear ho0); obtain ⟨Ao10, co10, eo10⟩ := Kd.V_slice HO103.out; subst eo10) | ((with_reducible refine Qaz (f := 12) rfl ?_); refine Qbd (some 8) rfl rfl Tryd.func12 (by kernel_rfl) rfl #[.slice Ao10 t101.length co10] rfl (by (try simp only [List.map_toArray, List.map_cons, List.map_nil]); first | done | rfl | (simp only [List.length_drop, List.length_take]; rfl)) ?_; (with_reducible refine (Qa1.calls _ _ t101 t104 _ ?side1 ?side2 A3.out).mono ?_); (case side1 => repeat (first | exact (Kd.Qa3 HO103.out).2.2 | (with_reducible refine Kd.QaQ ?_ _) | (with_reducible refine Kd.QaR ?_ _) | (with_reducible refine Kd.Qa7 ?_))); (case side2 => exact (Kd.Qa3 HO103.out).2.1); rintro e w11 ⟨v105, rfl, ho0, hb⟩; refine ⟨_, rfl, ?_⟩; have n0_ := Qad.mk (Kd.V_elder' (by (with_reducible repeat (first | apply Kd.Qa9 | apply Kd.Qa8 | apply Kd.V_drew)); exact HO103.out) (Kd.R_base ho0) hb); have n1_ := Qad.mk (Kd.R_lower ho0 (Qap (by repeat (first | (with_reducible first | exact HB.out | apply Qac | apply Qaa | apply Qab) | exact HB.out)))); have n2_ := Qad.mk (Qal (by repeat (first | (with_reducible first | exact HB.out | apply Qac | apply Qaa | apply Qab) | exact HB.out)) hb); clear HO103; clear HB; have HO103 := n0_; have HO106 := n1_; have HB := n2_; clear n0_ n1_ n2_; (try clear hb); (try clear hb2); (try clear hk); (try clear hi); (try clear ho0); obtain ⟨Ao12, co12, eo12⟩ := Kd.QaT HO106.out; subst eo12) | ((with_reducible refine Qaz (f := 11) rfl ?_); refine Qbd (some 9) rfl rfl Tryd.func11 (by kernel_rfl) rfl #[.slice Ao12 t104.length co12] rfl (by (try simp only [List.map_toArray, List.map_cons, List.map_nil]); first | done | rfl | (simp only [List.length_drop, List.length_take]; rfl)) ?_; (with_reducible refine (Qas.calls k _ _ t104 t107 _ ?side1 ?side2 A4.out).mono ?_); (case side1 => repeat (first | exact (Kd.Qay HO106.out).2.2 | (with_reducible refine Kd.QaQ ?_ _) | (with_reducible refine Kd.QaR ?_ _) | (with_reducible refine Kd.Qa7 ?_))); (case side2 => exact (Kd.Qay HO106.out).2.1); rintro e w13 ⟨v108, rfl, ho0, hb⟩; refine ⟨_, rfl, ?_⟩; have n0_ := Qad.mk (Kd.V_elder' (by (with_reducible repeat (first | apply Kd.Qa9 | apply Kd.Qa8 | apply Kd.V_drew)); exact HO103.out) (Kd.R_base ho0) hb); have n1_ := Qad.mk (Kd.QaC (by (with_reducible repeat (first | apply Kd.Qam | apply Kd.Qan | apply Kd.Qao)); exact HO106.out) hb); have n2_ := Qad.mk (Kd.R_lower ho0 (Qap (by repeat (first | (with_reducible first | exact HB.out | apply Qac | apply Qaa | apply Qab) | exact HB.out)))); have n3_ := Qad.mk (Qal (by repeat (first | (with_reducible first | exact HB.out | apply Qac | apply Qaa | apply Qab) | exact HB.out)) hb); clear HO103; clear HO106; clear HB; have HO103 := n0_; have HO106 := n1_; have HO109 := n2_; have HB := n3_; clear n0_ n1_ n2_ n3_; (try clear hb); (try clear hb2); (try clear hk); (try clear hi); (try clear ho0)) | ((with_reducible refine Qaz (f := 19) rfl ?_); refine Qbd (some 11) rfl rfl Tryd.func19 (by kernel_rfl) rfl #[.slice Ao10 t101.length co10] rfl (by (try simp only [List.map_toArray, List.map_cons, List.map_nil]); first | done | rfl | (simp only [List.length_drop, List.length_take]; rfl)) ?_; (with_reducible refine (Qax.calls k _ _ t101 t110 _ ?side1 ?side2 A5.out).mono ?_); (case side1 => repeat (first | exact (Kd.Qa3 HO103.out).2.2 | (with_reducible refine Kd.QaQ ?_ _) | (with_reducible refine Kd.QaR ?_ _) | (with_reducible refine Kd.Qa7 ?_))); (case side2 => exact (Kd.Qa3 HO103.out).2.1); rintro e w14 ⟨v111, rfl, ho0, hb⟩; refine ⟨_, rfl, ?_⟩; have n0_ := Qad.mk (Kd.V_elder' (by (with_reducible repeat (first | apply Kd.Qa9 | apply Kd.Qa8 | apply Kd.V_drew)); exact HO103.out) (Kd.R_base ho0) hb); have n1_ := Qad.mk (Kd.QaC (by (with_reducible repeat (first | apply Kd.Qam | apply Kd.Qan | apply Kd.Qao)); exact HO106.out) hb); have n2_ := Qad.mk (Kd.QaC (by (with_reducible repeat (first | apply Kd.Qam | apply Kd.Qan | apply Kd.Qao)); exact HO109.out) hb); have n3_ := Qad.mk (Kd.R_lower ho0 (Qap (by repeat (first | (with_reducible first | exact HB.out | apply Qac | apply Qaa | apply Qab) | exact HB.out)))); have n4_ := Qad.mk (Qal (by repeat (first | (with_reducible first | exact HB.out | apply Qac | apply Qaa | apply Qab) | exact HB.out)) hb); clear HO103; clear HO106; clear HO109; clear HB; have HO103 := n0_; have HO106 := n1_; have HO109 := n2_; have HO112 := n3_; have HB := n4_; clear n0_ n1_ n2_ n3_ n4_; (try clear hb); (try clear hb2); (try clear hk); (try clear hi); (try clear ho0); obtain ⟨Ao15, co15, eo15⟩ := Kd.QaT HO112.out; subst eo15; obtain ⟨Ao16, co16, eo16⟩ := Kd.QaT HO109.out; subst eo16) | ((with_reducible refine Qaz (f := 18) rfl ?_); refine Qbd (some 13) rfl rfl Tryd.func18 (by kernel_rfl) rfl #[.slice Ao15 t110.length co15, .slice Ao16 t107.length co16] rfl (by (try simp only [List.map_toArray, List.map_cons, List.map_nil]); first | done | rfl | (simp only [List.length_drop, List.length_take]; rfl)) ?_; (with_reducible refine (QaG.calls k _ _ t110 _ _ t107 t113 _ ?side1 ?side2 ?side3 ?side4 A6.out).mono ?_); (case side1 => repeat (first | exact (Kd.Qay HO112.out).2.2 | (with_reducible refine Kd.QaQ ?_ _) | (with_reducible refine Kd.QaR ?_ _) | (with_reducible refine Kd.Qa7 ?_))); (case side2 => exact (Kd.Qay HO112.out).2.1); (case side3 => repeat (first | exact (Kd.Qay HO109.out).2.2 | (with_reducible refine Kd.QaQ ?_ _) | (with_reducible refine Kd.QaR ?_ _) | (with_reducible refine Kd.Qa7 ?_))); (case side4 => exact (Kd.Qay HO109.out).2.1); rintro e w17 ⟨v114, rfl, ho0, hb⟩; refine ⟨_, rfl, ?_⟩; have n0_ := Qad.mk (Kd.V_elder' (by (with_reducible repeat (first | apply Kd.Qa9 | apply Kd.Qa8 | apply Kd.V_drew)); exact HO103.out) (Kd.R_base ho0) hb); have n1_ := Qad.mk (Kd.QaC (by (with_reducible repeat (first | apply Kd.Qam | apply Kd.Qan | apply Kd.Qao)); exact HO106.out) hb); have n2_ := Qad.mk (Kd.R_elder' (by (with_reducible repeat (first | apply Kd.Qam | apply Kd.Qan | apply Kd.Qao)); exact HO109.out) (Kd.R_base ho0) hb); have n3_ := Qad.mk (Kd.QaC (by (with_reducible repeat (first | apply Kd.Qam | apply Kd.Qan | apply Kd.Qao)); exact HO112.out) hb); have n4_ := Qad.mk (Kd.R_lower (Kd.R_new' ho0 (Kd.R_lt (by (with_reducible repeat (first | apply Kd.Qam | apply Kd.Qan | apply Kd.Qao)); exact HO109.out))) (Qap (by repeat (first | (with_reducible first | exact HB.out | apply Qac | apply Qaa | apply Qab) | exact HB.out)))); have n5_ := Qad.mk (Qal (by repeat (first | (with_reducible first | exact HB.out | apply Qac | apply Qaa | apply Qab) | exact HB.out)) hb); clear HO103; clear HO106; clear HO109; clear HO112; clear HB; have HO103 := n0_; have HO106 := n1_; have HO109 := n2_; have HO112 := n3_; have HO115 := n4_; have HB := n5_; clear n0_ n1_ n2_ n3_ n4_ n5_; (try clear hb); (try clear hb2); (try clear hk); (try clear hi); (try clear ho0); obtain ⟨Ao18, co18, eo18⟩ := Kd.QaT HO115.out; subst eo18) | (go_at_call 14; (with_reducible refine (QaH.calls k  t116 _ A8.out).mono ?_); rintro e w19 ⟨rfl, hb⟩; have n0_ := Qad.mk (Kd.V_below (by (with_reducible repeat (first | apply Kd.Qa9 | apply Kd.Qa8 | apply Kd.V_drew)); exact HO103.out) hb); have n1_ := Qad.mk (Kd.QaC (by (with_reducible repeat (first | apply Kd.Qam | apply Kd.Qan | apply Kd.Qao)); exact HO106.out) hb); have n2_ := Qad.mk (Kd.QaC (by (with_reducible repeat (first | apply Kd.Qam | apply Kd.Qan | apply Kd.Qao)); exact HO109.out) hb); have n3_ := Qad.mk (Kd.QaC (by (with_reducible repeat (first | apply Kd.Qam | apply Kd.Qan | apply Kd.Qao)); exact HO112.out) hb); have n4_ := Qad.mk (Kd.QaC (by (with_reducible repeat (first | apply Kd.Qam | apply Kd.Qan | apply Kd.Qao)); exact HO115.out) hb); have n5_ := Qad.mk (Qal (by repeat (first | (with_reducible first | exact HB.out | apply Qac | apply Qaa | apply Qab) | exact HB.out)) hb); clear HO103; clear HO106; clear HO109; clear HO112; clear HO115; clear HB; have HO103 := n0_; have HO106 := n1_; have HO109 := n2_; have HO112 := n3_; have HO115 := n4_; have HB := n5_; clear n0_ n1_ n2_ n3_ n4_ n5_; (try clear hb); (try clear hb2); (try clear hk); (try clear hi)))
  go_ret; exact ⟨by first | rfl | (simp [Qau, Qat] <;> rfl) | (simp [*, Qau, Qat] <;> rfl), by repeat (first | (with_reducible first | exact HB.out | apply Qac | apply Qaa | apply Qab) | exact HB.out)⟩
 ·rw [if_neg c7] at H; have c7b0 : ((t113.length : Int) == (t107.length : Int)) = false := beq_eq_false_iff_ne.mpr c7; have c7b1 : ((t113.length : Int) != (t107.length : Int)) = true := bne_iff_ne.mpr c7
  have c7b2 : (t113.length == t107.length) = false := by first | simpa using c7 | (simp at c7 ⊢; omega)
  obtain rfl := Option.some.inj H; go_enter Tryd.func5, Tryd.ntmps5
  go_wp2_with (first | ((with_reducible refine Qaz (f := 9) rfl ?_); refine Qbd (some 6) rfl rfl Tryd.func9 (by kernel_rfl) rfl #[.slice A0 l0.length c0] rfl (by (try simp only [List.map_toArray, List.map_cons, List.map_nil]); first | done | rfl | (simp only [List.length_drop, List.length_take]; rfl)) ?_; (with_reducible refine (Qa5.calls (fun k_ => k_ < w.heap.size) _ _ l0 t101 _ ?side1 A2.out).mono ?_); (case side1 => exact Kd.V_mk HC0.out (Kd.F_below (Kd.C_F k46_heap HR0.out) (by repeat (first | (with_reducible first | exact HB.out | apply Qac | apply Qaa | apply Qab) | exact HB.out)))); rintro e w20 ⟨v102, rfl, ho0, hb⟩; refine ⟨_, rfl, ?_⟩; have n0_ := Qad.mk (Kd.V_lower (Kd.V_mono (ok' := fun k_ => True) ho0 (fun k_ hk_ => trivial)) (Qap (by repeat (first | (with_reducible first | exact HB.out | apply Qac | apply Qaa | apply Qab) | exact HB.out)))); have n1_ := Qad.mk (Qal (by repeat (first | (with_reducible first | exact HB.out | apply Qac | apply Qaa | apply Qab) | exact HB.out)) hb); clear HB; have HO103 := n0_; have HB := n1_; clear n0_ n1_; (try clear hb); (try clear hb2); (try clear hk); (try clear hi); (try clear ho0); obtain ⟨Ao21, co21, eo21⟩ := Kd.V_slice HO103.out; subst eo21) | ((with_reducible refine Qaz (f := 12) rfl ?_); refine Qbd (some 8) rfl rfl Tryd.func12 (by kernel_rfl) rfl #[.slice Ao21 t101.length co21] rfl (by (try simp only [List.map_toArray, List.map_cons, List.map_nil]); first | done | rfl | (simp only [List.length_drop, List.length_take]; rfl)) ?_; (with_reducible refine (Qa1.calls _ _ t101 t104 _ ?side1 ?side2 A3.out).mono ?_); (case side1 => repeat (first | exact (Kd.Qa3 HO103.out).2.2 | (with_reducible refine Kd.QaQ ?_ _) | (with_reducible refine Kd.QaR ?_ _) | (with_reducible refine Kd.Qa7 ?_))); (case side2 => exact (Kd.Qa3 HO103.out).2.1); rintro e w22 ⟨v105, rfl, ho0, hb⟩; refine ⟨_, rfl, ?_⟩; have n0_ := Qad.mk (Kd.V_elder' (by (with_reducible repeat (first | apply Kd.Qa9 | apply Kd.Qa8 | apply Kd.V_drew)); exact HO103.out) (Kd.R_base ho0) hb); have n1_ := Qad.mk (Kd.R_lower ho0 (Qap (by repeat (first | (with_reducible first | exact HB.out | apply Qac | apply Qaa | apply Qab) | exact HB.out)))); have n2_ := Qad.mk (Qal (by repeat (first | (with_reducible first | exact HB.out | apply Qac | apply Qaa | apply Qab) | exact HB.out)) hb); clear HO103; clear HB; have HO103 := n0_; have HO106 := n1_; have HB := n2_; clear n0_ n1_ n2_; (try clear hb); (try clear hb2); (try clear hk); (try clear hi); (try clear ho0); obtain ⟨Ao23, co23, eo23⟩ := Kd.QaT HO106.out; subst eo23) | ((with_reducible refine Qaz (f := 11) rfl ?_); refine Qbd (some 9) rfl rfl Tryd.func11 (by kernel_rfl) rfl #[.slice Ao23 t104.length co23] rfl (by (try simp only [List.map_toArray, List.map_cons, List.map_nil]); first | done | rfl | (simp only [List.length_drop, List.length_take]; rfl)) ?_; (with_reducible refine (Qas.calls k _ _ t104 t107 _ ?side1 ?side2 A4.out).mono ?_); (case side1 => repeat (first | exact (Kd.Qay HO106.out).2.2 | (with_reducible refine Kd.QaQ ?_ _) | (with_reducible refine Kd.QaR ?_ _) | (with_reducible refine Kd.Qa7 ?_))); (case side2 => exact (Kd.Qay HO106.out).2.1); rintro e w24 ⟨v108, rfl, ho0, hb⟩; refine ⟨_, rfl, ?_⟩; have n0_ := Qad.mk (Kd.V_elder' (by (with_reducible repeat (first | apply Kd.Qa9 | apply Kd.Qa8 | apply Kd.V_drew)); exact HO103.out) (Kd.R_base ho0) hb); have n1_ := Qad.mk (Kd.QaC (by (with_reducible repeat (first | apply Kd.Qam | apply Kd.Qan | apply Kd.Qao)); exact HO106.out) hb); have n2_ := Qad.mk (Kd.R_lower ho0 (Qap (by repeat (first | (with_reducible first | exact HB.out | apply Qac | apply Qaa | apply Qab) | exact HB.out)))); have n3_ := Qad.mk (Qal (by repeat (first | (with_reducible first | exact HB.out | apply Qac | apply Qaa | apply Qab) | exact HB.out)) hb); clear HO103; clear HO106; clear HB; have HO103 := n0_; have HO106 := n1_; have HO109 := n2_; have HB := n3_; clear n0_ n1_ n2_ n3_; (try clear hb); (try clear hb2); (try clear hk); (try clear hi); (try clear ho0)) | ((with_reducible refine Qaz (f := 19) rfl ?_); refine Qbd (some 11) rfl rfl Tryd.func19 (by kernel_rfl) rfl #[.slice Ao21 t101.length co21] rfl (by (try simp only [List.map_toArray, List.map_cons, List.map_nil]); first | done | rfl | (simp only [List.length_drop, List.length_take]; rfl)) ?_; (with_reducible refine (Qax.calls k _ _ t101 t110 _ ?side1 ?side2 A5.out).mono ?_); (case side1 => repeat (first | exact (Kd.Qa3 HO103.out).2.2 | (with_reducible refine Kd.QaQ ?_ _) | (with_reducible refine Kd.QaR ?_ _) | (with_reducible refine Kd.Qa7 ?_))); (case side2 => exact (Kd.Qa3 HO103.out).2.1); rintro e w25 ⟨v111, rfl, ho0, hb⟩; refine ⟨_, rfl, ?_⟩; have n0_ := Qad.mk (Kd.V_elder' (by (with_reducible repeat (first | apply Kd.Qa9 | apply Kd.Qa8 | apply Kd.V_drew)); exact HO103.out) (Kd.R_base ho0) hb); have n1_ := Qad.mk (Kd.QaC (by (with_reducible repeat (first | apply Kd.Qam | apply Kd.Qan | apply Kd.Qao)); exact HO106.out) hb); have n2_ := Qad.mk (Kd.QaC (by (with_reducible repeat (first | apply Kd.Qam | apply Kd.Qan | apply Kd.Qao)); exact HO109.out) hb); have n3_ := Qad.mk (Kd.R_lower ho0 (Qap (by repeat (first | (with_reducible first | exact HB.out | apply Qac | apply Qaa | apply Qab) | exact HB.out)))); have n4_ := Qad.mk (Qal (by repeat (first | (with_reducible first | exact HB.out | apply Qac | apply Qaa | apply Qab) | exact HB.out)) hb); clear HO103; clear HO106; clear HO109; clear HB; have HO103 := n0_; have HO106 := n1_; have HO109 := n2_; have HO112 := n3_; have HB := n4_; clear n0_ n1_ n2_ n3_ n4_; (try clear hb); (try clear hb2); (try clear hk); (try clear hi); (try clear ho0); obtain ⟨Ao26, co26, eo26⟩ := Kd.QaT HO112.out; subst eo26; obtain ⟨Ao27, co27, eo27⟩ := Kd.QaT HO109.out; subst eo27) | ((with_reducible refine Qaz (f := 18) rfl ?_); refine Qbd (some 13) rfl rfl Tryd.func18 (by kernel_rfl) rfl #[.slice Ao26 t110.length co26, .slice Ao27 t107.length co27] rfl (by (try simp only [List.map_toArray, List.map_cons, List.map_nil]); first | done | rfl | (simp only [List.length_drop, List.length_take]; rfl)) ?_; (with_reducible refine (QaG.calls k _ _ t110 _ _ t107 t113 _ ?side1 ?side2 ?side3 ?side4 A6.out).mono ?_); (case side1 => repeat (first | exact (Kd.Qay HO112.out).2.2 | (with_reducible refine Kd.QaQ ?_ _) | (with_reducible refine Kd.QaR ?_ _) | (with_reducible refine Kd.Qa7 ?_))); (case side2 => exact (Kd.Qay HO112.out).2.1); (case side3 => repeat (first | exact (Kd.Qay HO109.out).2.2 | (with_reducible refine Kd.QaQ ?_ _) | (with_reducible refine Kd.QaR ?_ _) | (with_reducible refine Kd.Qa7 ?_))); (case side4 => exact (Kd.Qay HO109.out).2.1); rintro e w28 ⟨v114, rfl, ho0, hb⟩; refine ⟨_, rfl, ?_⟩; have n0_ := Qad.mk (Kd.V_elder' (by (with_reducible repeat (first | apply Kd.Qa9 | apply Kd.Qa8 | apply Kd.V_drew)); exact HO103.out) (Kd.R_base ho0) hb); have n1_ := Qad.mk (Kd.QaC (by (with_reducible repeat (first | apply Kd.Qam | apply Kd.Qan | apply Kd.Qao)); exact HO106.out) hb); have n2_ := Qad.mk (Kd.R_elder' (by (with_reducible repeat (first | apply Kd.Qam | apply Kd.Qan | apply Kd.Qao)); exact HO109.out) (Kd.R_base ho0) hb); have n3_ := Qad.mk (Kd.QaC (by (with_reducible repeat (first | apply Kd.Qam | apply Kd.Qan | apply Kd.Qao)); exact HO112.out) hb); have n4_ := Qad.mk (Kd.R_lower (Kd.R_new' ho0 (Kd.R_lt (by (with_reducible repeat (first | apply Kd.Qam | apply Kd.Qan | apply Kd.Qao)); exact HO109.out))) (Qap (by repeat (first | (with_reducible first | exact HB.out | apply Qac | apply Qaa | apply Qab) | exact HB.out)))); have n5_ := Qad.mk (Qal (by repeat (first | (with_reducible first | exact HB.out | apply Qac | apply Qaa | apply Qab) | exact HB.out)) hb); clear HO103; clear HO106; clear HO109; clear HO112; clear HB; have HO103 := n0_; have HO106 := n1_; have HO109 := n2_; have HO112 := n3_; have HO115 := n4_; have HB := n5_; clear n0_ n1_ n2_ n3_ n4_ n5_; (try clear hb); (try clear hb2); (try clear hk); (try clear hi); (try clear ho0); obtain ⟨Ao29, co29, eo29⟩ := Kd.QaT HO115.out; subst eo29))
  go_ret; exact ⟨by first | rfl | (simp [Qau, Qat] <;> rfl) | (simp [*, Qau, Qat] <;> rfl), by repeat (first | (with_reducible first | exact HB.out | apply Qac | apply Qaa | apply Qab) | exact HB.out)⟩
end Go.Proofs.YtpjddgmdgfjlfaaDoor.Pr
end
section
namespace Go.Proofs.YtpjddgmdgfjlfaaDoor.Pr
open Go.RowKit Go.Proofs.YtpjddgmdgfjlfaaDoorW.PrintWords Go.Proofs.YtpjddgmdgfjlfaaDoorW.PrintLast Go.Proofs.YtpjddgmdgfjlfaaDoorW.PrintMore
attribute [local go_sem] QaY QaW Qbb Qba QaP QaO QaX QaV
set_option linter.unusedVariables false
set_option linter.unusedSimpArgs false
end Go.Proofs.YtpjddgmdgfjlfaaDoor.Pr
end
section
namespace Go.Proofs.YtpjddgmdgfjlfaaDoor.Pr
open Go.RowKit Go.Proofs.YtpjddgmdgfjlfaaDoorW.PrintWords Go.Proofs.YtpjddgmdgfjlfaaDoorW.PrintLast Go.Proofs.YtpjddgmdgfjlfaaDoorW.PrintMore
attribute [local go_sem] QaY QaW Qbb Qba QaP QaO QaX QaV
set_option linter.unusedVariables false
set_option linter.unusedSimpArgs false

end Go.Proofs.YtpjddgmdgfjlfaaDoor.Pr
end
section
namespace Go.Proofs.YtpjddgmdgfjlfaaDoor.Pr
open Go.RowKit Go.Proofs.YtpjddgmdgfjlfaaDoorW.PrintWords Go.Proofs.YtpjddgmdgfjlfaaDoorW.PrintLast Go.Proofs.YtpjddgmdgfjlfaaDoorW.PrintMore
attribute [local go_sem] QaY QaW Qbb Qba QaP QaO QaX QaV
set_option linter.unusedVariables false
set_option linter.unusedSimpArgs false

end Go.Proofs.YtpjddgmdgfjlfaaDoor.Pr
end
section
namespace Go.Proofs.YtpjddgmdgfjlfaaDoor.Pr
open Go.RowKit Go.Proofs.YtpjddgmdgfjlfaaDoorW.PrintWords Go.Proofs.YtpjddgmdgfjlfaaDoorW.PrintLast Go.Proofs.YtpjddgmdgfjlfaaDoorW.PrintMore
theorem few_is (l : List Cred) : Qa5.f l = some (l.take 14) := by
  unfold Qa5.f
  by_cases h : (l.length : Int) > 14
  · rw [if_pos h, if_pos (by omega)]
  · rw [if_neg h, List.take_of_length_le (by omega)]
theorem rdPair (l : List Pair) (i : Nat) : rd_T47 l (i : Int) = l[i]! := by
  unfold rd_T47; rw [Int.toNat_natCast, List.getElem!_eq_getElem?_getD, List.getD_eq_getElem?_getD]; rfl
theorem told_l0 (A : List Pair) (hA : A.length < 1000000) : ∀ (n i : Nat) (out : List RPair), n + i = A.length → out.length ≤ i → Ev (fun k => Qas.l0 k A out (i : Int)) (out ++ (A.drop i).map toR)
  | 0, i, out, hn, ho => by
    rw [show A.drop i = [] from List.drop_eq_nil_of_le (by omega), List.map_nil, List.append_nil]; refine Ev.step (fun k => ?_) (Ev.pure _); rw [Qas.l0, if_neg (by omega)]
  | n + 1, i, out, hn, ho => by
    rw [drop_bang (by omega : i < A.length), List.map_cons]; have := told_l0 A hA n (i + 1) (out ++ [toR A[i]!]) (by omega) (by simp; omega); rw [List.append_assoc, List.singleton_append] at this; refine Ev.step (fun k => ?_) this; rw [Qas.l0, if_pos (by omega), if_pos (by omega), if_pos (by omega), wrap_succ (by omega), rdPair]; rfl
theorem told_ev (A : List Pair) (hA : A.length < 1000000) : Ev (fun k => Qas.f k A) (A.map toR) := by
  have := told_l0 A hA A.length 0 [] (by omega) (by simp); rw [List.drop_zero, List.nil_append] at this; exact this
def membersOf (A : List Pair) (r : Role) : List ByteArray := (A.filter fun p => decide (p.f0 = r)).map fun p => p.f1
theorem members_l0 (A : List Pair) (hA : A.length < 1000000) (r : Role) : ∀ (n i : Nat) (out : List ByteArray), n + i = A.length → out.length ≤ i → Ev (fun k => QaJ.l0 k out A (A.length : Int) (i : Int) r.f0 r.f1) (out ++ membersOf (A.drop i) r)
  | 0, i, out, hn, ho => by
    rw [show A.drop i = [] from List.drop_eq_nil_of_le (by omega)]; refine Ev.step (fun k => ?_) (Ev.pure _); rw [QaJ.l0, if_neg (by omega)]; simp [membersOf]
  | n + 1, i, out, hn, ho => by
    rw [drop_bang (by omega : i < A.length)]; unfold membersOf; rw [List.filter_cons]
    by_cases e : A[i]!.f0 = r
    · rw [decide_eq_true e, if_pos rfl, List.map_cons]
      have := members_l0 A hA r n (i + 1) (out ++ [A[i]!.f1]) (by omega) (by simp; omega); rw [List.append_assoc, List.singleton_append] at this; refine Ev.step (fun k => ?_) this; rw [QaJ.l0, if_pos (by omega), if_pos (by omega), if_pos (by omega), wrap_succ (by omega), rdPair, role_beq, decide_eq_true (p := A[i]!.f0 = ⟨r.f0, r.f1⟩) e, if_pos rfl, if_pos (by omega)]
    · rw [decide_eq_false e, if_neg (by decide)]
      refine Ev.step (fun k => ?_) (members_l0 A hA r n (i + 1) out (by omega) (by omega)); rw [QaJ.l0, if_pos (by omega), if_pos (by omega), if_pos (by omega), wrap_succ (by omega), rdPair, role_beq, decide_eq_false (p := A[i]!.f0 = ⟨r.f0, r.f1⟩) e, if_neg (by decide)]
theorem members_ev {l : List Cred} {A : List Pair} (h : Qa1.f l = some A) (hA : A.length < 1000000) (r : Role) : Ev (fun k => QaJ.f k l r.f0 r.f1) (membersOf A r) := by
  unfold QaJ.f; rw [h]; have := members_l0 A hA r A.length 0 [] (by omega) (by simp); rw [List.drop_zero, List.nil_append] at this; exact this
theorem pair_beq (p : Pair) (a b c : ByteArray) : ((a.toList == p.f0.f0.toList && (b.toList == p.f0.f1.toList)) && (c.toList == p.f1.toList)) = decide (p = ⟨⟨a, b⟩, c⟩) := by
  rw [beq_dec, beq_dec, beq_dec, Bool.eq_iff_iff, Bool.and_eq_true, Bool.and_eq_true, decide_eq_true_eq, decide_eq_true_eq, decide_eq_true_eq, decide_eq_true_eq]; exact ⟨fun h => pair_ext (role_ext h.1.1.symm h.1.2.symm) h.2.symm, fun h => by rw [h]; exact ⟨⟨rfl, rfl⟩, rfl⟩⟩
theorem index_l0 (A : List Pair) (hA : A.length < 1000000) (a b c : ByteArray) : ∀ (n i : Nat), n + i = A.length → ∃ v : Int, Ev (fun k => Qbc.l0 k A (A.length : Int) (i : Int) a b c) v ∧ (v ≥ 0 ↔ (⟨⟨a, b⟩, c⟩ : Pair) ∈ A.drop i)
  | 0, i, hn => by
    rw [show A.drop i = [] from List.drop_eq_nil_of_le (by omega)]; refine ⟨-1, Ev.step (fun k => ?_) (Ev.pure _), by simp⟩; rw [Qbc.l0, if_neg (by omega)]
  | n + 1, i, hn => by
    rw [drop_bang (by omega : i < A.length)]
    by_cases e : A[i]! = ⟨⟨a, b⟩, c⟩
    · refine ⟨(i : Int), Ev.step (fun k => ?_) (Ev.pure _), ⟨fun _ => by rw [e]; exact List.mem_cons_self .., fun _ => by omega⟩⟩
      rw [Qbc.l0, if_pos (by omega), if_pos (by omega), if_pos (by omega), rdPair, pair_beq, decide_eq_true e, if_pos rfl]
    · obtain ⟨v, h1, h2⟩ := index_l0 A hA a b c n (i + 1) (by omega)
      refine ⟨v, Ev.step (fun k => ?_) h1, h2.trans ⟨fun h => List.mem_cons_of_mem _ h, fun h => (List.mem_cons.mp h).resolve_left (fun h => e h.symm)⟩⟩; rw [Qbc.l0, if_pos (by omega), if_pos (by omega), if_pos (by omega), wrap_succ (by omega), rdPair, pair_beq, decide_eq_false e, if_neg (by decide)]
theorem has_ev {l : List Cred} {A : List Pair} (h : Qa1.f l = some A) (hA : A.length < 1000000) (who : ByteArray) (r : Role) : Ev (fun k => solve_Has.f k l who r.f0 r.f1) (decide ((⟨r, who⟩ : Pair) ∈ A)) := by
  unfold solve_Has.f solve_Pair_25.f; rw [h]; obtain ⟨v, h1, h2⟩ := index_l0 A hA r.f0 r.f1 who A.length 0 (by omega); rw [List.drop_zero] at h2; refine Ev.bind (a := decide ((⟨r, who⟩ : Pair) ∈ A)) (Ev.bind h1 ?_) (Ev.pure _)
  have e : decide (v ≥ 0) = decide ((⟨r, who⟩ : Pair) ∈ A) := by
    rw [Bool.eq_iff_iff, decide_eq_true_eq, decide_eq_true_eq]; exact h2
  rw [e]; exact Ev.pure _
def ex1 : Cred := ⟨⟨1, 1⟩, ⟨#[97]⟩, 3, ⟨#[]⟩, ⟨⟨#[]⟩, ⟨#[98]⟩⟩, ⟨⟨#[]⟩, ⟨#[99]⟩⟩⟩
def ex2 : Cred := ⟨⟨1, 2⟩, ⟨#[98]⟩, 1, ⟨#[100, 50]⟩, ⟨⟨#[]⟩, ⟨#[]⟩⟩, ⟨⟨#[]⟩, ⟨#[]⟩⟩⟩
def ex3 : Cred := ⟨⟨2, 1⟩, ⟨#[99]⟩, 1, ⟨#[98, 111, 98]⟩, ⟨⟨#[]⟩, ⟨#[]⟩⟩, ⟨⟨#[]⟩, ⟨#[]⟩⟩⟩
def exP1 : Pair := ⟨⟨⟨#[100, 49]⟩, ⟨#[97]⟩⟩, ⟨#[98, 111, 98]⟩⟩
def exP2 : Pair := ⟨⟨⟨#[100, 49]⟩, ⟨#[98]⟩⟩, ⟨#[100, 50]⟩⟩
def exP3 : Pair := ⟨⟨⟨#[100, 50]⟩, ⟨#[99]⟩⟩, ⟨#[98, 111, 98]⟩⟩
theorem noText_dec (s : ByteArray) : noText s = decide (s = ⟨#[]⟩) := by
  unfold noText; rw [Bool.eq_iff_iff, beq_iff_eq, empty_iff, decide_eq_true_eq]
theorem ex1_may : credMay ex1 = true := by
  unfold credMay roleOk bareOk noRole; simp only [noText_dec]
  decide
theorem ex2_may : credMay ex2 = true := by
  unfold credMay roleOk bareOk noRole; simp only [noText_dec]
  decide
theorem ex3_may : credMay ex3 = true := by
  unfold credMay roleOk bareOk noRole; simp only [noText_dec]
  decide
def exs : List Cred := [ex1, ex2, ex3]
theorem exs_counts (c : Cred) : c ∈ counts exs ↔ c = ex1 ∨ c = ex2 ∨ c = ex3 := by
  rw [(counts_spec exs).mem]; constructor
  · intro h
    have := h.mem
    simpa [exs] using this
  · rintro (rfl | rfl | rfl)
    · unfold First exs
      rw [List.find?_cons, ex1_may, show sameID ex1 ex1 = true by decide]; rfl
    · unfold First exs
      rw [List.find?_cons, show sameID ex1 ex2 = false by decide, Bool.and_false, List.find?_cons, ex2_may, show sameID ex2 ex2 = true by decide]; rfl
    · unfold First exs
      rw [List.find?_cons, show sameID ex1 ex3 = false by decide, Bool.and_false, List.find?_cons, show sameID ex2 ex3 = false by decide, Bool.and_false, List.find?_cons, ex3_may, show sameID ex3 ex3 = true by decide]; rfl
theorem exs_all : AllOf (counts exs) [exP1, exP2, exP3] where
  sorted := by
    have h12 : pairLess exP1 exP2 = true := by
      unfold pairLess roleLess; simp only [ByteArray.toList_eq]
      decide
    have h13 : pairLess exP1 exP3 = true := by
      unfold pairLess roleLess; simp only [ByteArray.toList_eq]
      decide
    have h23 : pairLess exP2 exP3 = true := by
      unfold pairLess roleLess; simp only [ByteArray.toList_eq]
      decide
    simp [h12, h13, h23]
  mem p := by
    have m1 : ex1 ∈ counts exs := (exs_counts _).mpr (.inl rfl); have m2 : ex2 ∈ counts exs := (exs_counts _).mpr (.inr (.inl rfl)); have m3 : ex3 ∈ counts exs := (exs_counts _).mpr (.inr (.inr rfl)); have s2 : Said (counts exs) exP2 := Said.member m2 rfl; have s3 : Said (counts exs) exP3 := Said.member m3 rfl; have s1 : Said (counts exs) exP1 := Said.link (c := ex1) (u := ⟨#[100, 50]⟩) m1 rfl s2 (by decide) s3; constructor
    · intro h
      simp only [List.mem_cons, List.not_mem_nil, or_false] at h
      rcases h with rfl | rfl | rfl
      · exact s1
      · exact s2
      · exact s3
    · intro h
      induction h with
      | @member c hc k =>
        rcases (exs_counts c).mp hc with rfl | rfl | rfl
        · exact absurd k (by decide)
        · exact .tail _ (.head _)
        · exact .tail _ (.tail _ (.head _))
      | @incl c u hc k _ ih =>
        rcases (exs_counts c).mp hc with rfl | rfl | rfl
        · exact absurd k (by decide)
        · exact absurd k (by decide)
        · exact absurd k (by decide)
      | @link c u v hc k _ n _ ih1 ih2 =>
        rcases (exs_counts c).mp hc with rfl | rfl | rfl
        · have hu : u = ⟨#[100, 50]⟩ := by
            simp only [List.mem_cons, List.not_mem_nil, or_false] at ih1
            rcases ih1 with e | e | e
            · exact absurd (congrArg S47.f0 e) (show ¬ linkFirst ex1 = exP1.f0 by decide)
            · exact congrArg S47.f1 e
            · exact absurd (congrArg S47.f0 e) (show ¬ linkFirst ex1 = exP3.f0 by decide)
          have hv : v = ⟨#[98, 111, 98]⟩ := by
            rw [hu] at ih2; simp only [List.mem_cons, List.not_mem_nil, or_false] at ih2
            rcases ih2 with e | e | e
            · exact absurd (congrArg S47.f0 e) (show ¬ (⟨⟨#[100, 50]⟩, ex1.f5.f1⟩ : Role) = exP1.f0 by decide)
            · exact absurd (congrArg S47.f0 e) (show ¬ (⟨⟨#[100, 50]⟩, ex1.f5.f1⟩ : Role) = exP2.f0 by decide)
            · exact congrArg S47.f1 e
          rw [hv]; exact .head _
        · exact absurd k (by decide)
        · exact absurd k (by decide)
      | @both c u hc k _ _ ih1 ih2 =>
        rcases (exs_counts c).mp hc with rfl | rfl | rfl
        · exact absurd k (by decide)
        · exact absurd k (by decide)
        · exact absurd k (by decide)
theorem exs_ok : ∀ c ∈ exs, okCred c := by
  intro c hc
  have : c = ex1 ∨ c = ex2 ∨ c = ex3 := by simpa [exs] using hc
  rcases this with rfl | rfl | rfl <;> exact ⟨by decide, by decide, ⟨by decide, by decide⟩, by decide, by decide⟩
theorem exs_is : Qa1.f exs = some [exP1, exP2, exP3] := by
  obtain ⟨A, h1, h2⟩ := all_is exs (by decide) exs_ok; rw [h1, h2.unique exs_all]
theorem lives_ev : Ev (fun k => QaH.f k) true := by
  unfold QaH.f
  show Ev (fun k => (QaJ.f k exs ⟨#[100, 49]⟩ ⟨#[97]⟩).bind _) true
  refine Ev.bind (members_ev exs_is (by decide) ⟨⟨#[100, 49]⟩, ⟨#[97]⟩⟩) ?_; rw [show membersOf [exP1, exP2, exP3] ⟨⟨#[100, 49]⟩, ⟨#[97]⟩⟩ = [⟨#[98, 111, 98]⟩] by decide]
  have e1 : (rdOf ByteArray.empty [(⟨#[98, 111, 98]⟩ : ByteArray)] 0).toList = [98, 111, 98] := by
    rw [ByteArray.toList_eq]; rfl
  simp only [e1, List.length_cons, List.length_nil]; refine Ev.bind (a := true) ?_ ?_
  · have := has_ev exs_is (by decide) ⟨#[98, 111, 98]⟩ ⟨⟨#[100, 50]⟩, ⟨#[99]⟩⟩
    rw [show decide ((⟨⟨⟨#[100, 50]⟩, ⟨#[99]⟩⟩, ⟨#[98, 111, 98]⟩⟩ : Pair) ∈ [exP1, exP2, exP3]) = true by decide] at this; exact this
  · simp only [if_true]
    refine Ev.bind (a := false) ?_ ?_
    · have := has_ev exs_is (by decide) ⟨#[97, 110, 110]⟩ ⟨⟨#[100, 50]⟩, ⟨#[99]⟩⟩
      rw [show decide ((⟨⟨⟨#[100, 50]⟩, ⟨#[99]⟩⟩, ⟨#[97, 110, 110]⟩⟩ : Pair) ∈ [exP1, exP2, exP3]) = false by decide] at this; exact this
    · show Ev (fun _ => (Qa1.f exs).bind _) true
      rw [exs_is]; exact Ev.pure _
theorem take_len (l : List Cred) : (l.take 14).length ≤ 14 := by simp; omega
theorem take_ok {l : List Cred} (h : ∀ c ∈ l, okCred c) : ∀ c ∈ l.take 14, okCred c := fun c hc => h c (List.mem_of_mem_take hc)
theorem solveClosed_true (l : List Cred) (hok : ∀ c ∈ l, okCred c) : Ev (fun k => liverylaw06_SolveClosed.f k l) true := by
  unfold liverylaw06_SolveClosed.f; rw [few_is]; have hlen := take_len l; obtain ⟨A, h1, h2⟩ := all_is (l.take 14) (by omega) (take_ok hok); have hc := counts_length (l.take 14); have hA := h2.length (by omega); simp only [h1, Option.bind_some]; refine Ev.bind (told_ev A (by omega)) (Ev.bind (refCounts_is _ (by omega)) (Ev.bind (round_ev _ (by omega) _ (by rw [List.length_map]; omega)) ?_))
  have hcl : (roundL (counts (l.take 14)) (A.map toR)).length = (A.map toR).length := by
    refine round_closed fun c hcm x hx => ?_
    have := brings_said hcm (l := A.map toR) (fun p hp => by
      obtain ⟨q, hq, rfl⟩ := List.mem_map.mp hp
      exact (h2.mem q).mp hq) hx
    exact List.mem_map.mpr ⟨⟨x.f0, x.f1⟩, (h2.mem _).mpr this, rfl⟩
  simp only [hcl, if_true]; exact Ev.bind lives_ev (Ev.pure _)
end Go.Proofs.YtpjddgmdgfjlfaaDoor.Pr
end
section
namespace Go.Proofs.YtpjddgmdgfjlfaaDoor.Pr
open Go.RowKit Go.Proofs.YtpjddgmdgfjlfaaDoorW.PrintWords Go.Proofs.YtpjddgmdgfjlfaaDoorW.PrintLast Go.Proofs.YtpjddgmdgfjlfaaDoorW.PrintMore
def within (cs : List Cred) (base : List RPair) (x : RPair) : Prop := (∃ c ∈ cs, x.f0 = credRole c) ∧ x.f1 ∈ cs.map (fun c => c.f3) ++ base.map (fun p => p.f1)
end Go.Proofs.YtpjddgmdgfjlfaaDoor.Pr
end
