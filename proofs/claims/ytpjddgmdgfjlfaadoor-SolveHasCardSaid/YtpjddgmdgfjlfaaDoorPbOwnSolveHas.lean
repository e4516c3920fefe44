/- The law's own part of the proof. No conditions. -/
import Derived.OrdersHeld
import Derived.Deep.RegionHeld3
import Derived.Laws.BitsLemmas
import Derived.RowKit
import Derived.Shelf.SlSortCmp.NoneTotal
import Derived.WalkKit
import Derived.WalkSpells
import Derived.Lib.Hide
import Derived.DeepKeys4
import Derived.KernelRfl
import Derived.WalkLawsBesides
import Derived.Deep.QuietTactic
import Derived.Deep.RegionWith
import Derived.BigQuiet
import Derived.RegionTactic
import Derived.ChangeAlike
import Derived.Deep.RegionLaw
import Derived.Lib.SmallJoins
import Derived.Lib.SlicesS
import Derived.Laws.StructEq
import Derived.Shelf.SlicesE.Clone
import Derived.Test.YtpjddgmdgfjlfaaDoorProg
import Derived.Below
import Derived.Deep.Draws
import Derived.Deep.AppendLies
import Derived.Maps.AppendAt
import Derived.OwnWalk
import Derived.Laws.BytesArg
import Derived.Laws.MakeOwn
import Derived.Laws.OwnMore
import Derived.Tactics
import Derived.Lib.ConvBytes
import Derived.Laws.Slices
import Derived.RowKit3
import Derived.Deep.LoopGhost
import Derived.WideLaws
import Derived.Deep.DeepCutAuto
import Derived.Deep.CutBlock
import Derived.Lib.AppendStr
import Derived.ArgAppend
import Derived.Laws.IdiomCopy
import Derived.ProofKit
import Derived.ChangeSlices
import Derived.DataElems
import Derived.Shelf.SlicesG.Cmp
import Derived.StillTailTactics
import Derived.Sort.Grow
import Derived.Outline
import Derived.Laws.RangeAny
import Derived.Laws.Closers25
import Derived.Sort.LotA
import Derived.Laws.Strings
import Derived.Shelf.SlSortCmp.WholeK
import Derived.Ground.SlsfProg
import Derived.Ground.SlgnProg
import Derived.Shelf.GgSortFunc.InsertionK
import Derived.Maps.OwnSet
import Derived.Maps.RangeRun
import Derived.Maps.Range
import Derived.Carry
import Derived.Sort.Walk0
import Derived.OpenShut
import Derived.ShutString
import Derived.ChangeOld
import Derived.SizedLaws
import Derived.LaidMore
import Derived.Stop.Joined
import Derived.SevenTiedAt
import Derived.Ground.SlgcProg
import Derived.Test.YtpjddgmdgfjlfaaDoorPb0
import Derived.Test.YtpjddgmdgfjlfaaDoorPb1
import Derived.Test.YtpjddgmdgfjlfaaDoorPb2
import Derived.Test.YtpjddgmdgfjlfaaDoorPb3
import Derived.Test.YtpjddgmdgfjlfaaDoorPb4
import Derived.Test.YtpjddgmdgfjlfaaDoorPb5
import Derived.Test.YtpjddgmdgfjlfaaDoorPb6
import Derived.Test.YtpjddgmdgfjlfaaDoorPb7
import Derived.Test.YtpjddgmdgfjlfaaDoorPb8
import Derived.Test.YtpjddgmdgfjlfaaDoorPb9
import Derived.Test.YtpjddgmdgfjlfaaDoorPb10
import Derived.Test.YtpjddgmdgfjlfaaDoorPb11
import Derived.Test.YtpjddgmdgfjlfaaDoorPb12
import Derived.Test.YtpjddgmdgfjlfaaDoorPb13
import Derived.Test.YtpjddgmdgfjlfaaDoorPb14
section
namespace Go.Proofs.YtpjddgmdgfjlfaaDoor.Pr
open Go.RowKit Go.Proofs.YtpjddgmdgfjlfaaDoorW.PrintWords Go.Proofs.YtpjddgmdgfjlfaaDoorW.PrintLast Go.Proofs.YtpjddgmdgfjlfaaDoorW.PrintMore
attribute [local go_sem] QaY QaW Qbb Qba QaP QaO QaX QaV
set_option linter.unusedVariables false
set_option linter.unusedSimpArgs false

end Go.Proofs.YtpjddgmdgfjlfaaDoor.Pr
end
section
namespace Go.Proofs.YtpjddgmdgfjlfaaDoor.Pr
open Go.RowKit Go.Proofs.YtpjddgmdgfjlfaaDoorW.PrintWords Go.Proofs.YtpjddgmdgfjlfaaDoorW.PrintLast Go.Proofs.YtpjddgmdgfjlfaaDoorW.PrintMore
attribute [local go_sem] QaY QaW Qbb Qba QaP QaO QaX QaV
set_option linter.unusedVariables false
set_option linter.unusedSimpArgs false
attribute [local go_sem high] eqA33
def Qa6.l0 : Nat → List (S46) → ByteArray → List (S36) → Bool → List ByteArray → Int → Int → ByteArray → ByteArray → Option (Bool)
 | 0, _, _, _, _, _, _, _, _, _ => none
 | k + 1, x0, x1, x7, x8, x9, x10, x11, x102000, x102001 => if x11 < (x7.length : Int) then (if 0 ≤ x11 then (if ((((Qav x7 x11).f0.f0).toList) == x102000.toList && ((((Qav x7 x11).f0.f1).toList) == x102001.toList)) = true then (if x10 ≥ (x9.length : Int) then (some false) else (if 0 ≤ x10 then (if x10 < (x9.length : Int) then (if (rdOf ByteArray.empty x9 x10).toList = ((Qav x7 x11).f1).toList then (Qa6.l0 k x0 x1 x7 x8 x9 (wrap64 (x10 + 1)) (wrap64 (x11 + 1)) x102000 x102001) else (some false)) else (none)) else (none))) else (Qa6.l0 k x0 x1 x7 x8 x9 x10 (wrap64 (x11 + 1)) x102000 x102001)) else (none)) else ((solve_Has.f k x0 x1 x102000 x102001).bind fun t112 => (if (t112 == x8) = true then (if x10 = (x9.length : Int) then ((QaH.f k).bind fun t113 => (some t113)) else (some false)) else (some false)))
def Qa6.f (k : Nat) (l0 : List (S46)) (a1 : ByteArray) (a2_0 : ByteArray) (a2_1 : ByteArray) : Option (Bool) := (Qa5.f l0).bind fun t102 => ((Qaw.f k t102).bind fun t105 => ((QaZ.f k t105 a2_0 a2_1 a1).bind fun t108 => ((QaJ.f k t102 a2_0 a2_1).bind fun t109 => (Qa6.l0 k t102 a1 t105 t108 t109 0 0 a2_0 a2_1))))
set_option maxHeartbeats 8000000 in
set_option maxRecDepth 100000 in
theorem Qa6.calls (k : Nat) (A0 : Option Addr) (c0 : Nat) (l0 : List (S46)) (a1 : ByteArray) (a2_0 : ByteArray) (a2_1 : ByteArray) (r : Bool) (w : World) (hr0 : Kd.C k46 w A0 l0.length l0) (hc0 : l0.length ≤ c0) (h : Qa6.f k l0 a1 a2_0 a2_1 = some r) :
  Calls Tryd.prog 4 #[.slice A0 l0.length c0, .string a1, .agg #[.string a2_0, .string a2_1]] w fun e w' => e = .returned (.bool r) ∧ Below w.heap.size w w' := by
 have hu33 := Tryd.underlying33; have hu36 := Tryd.underlying36; have HR0 := Qad.mk hr0; have HC0 := Qad.mk hc0; clear hr0 hc0; have HB := Qad.mk (Below.refl w.heap.size w); have H : ((Qa5.f l0).bind fun t102 => ((Qaw.f k t102).bind fun t105 => ((QaZ.f k t105 a2_0 a2_1 a1).bind fun t108 => ((QaJ.f k t102 a2_0 a2_1).bind fun t109 => (Qa6.l0 k t102 a1 t105 t108 t109 0 0 a2_0 a2_1))))) = some r := h; clear h; replace H := Option.bind_eq_some_iff.mp H; obtain ⟨t102, A40, H⟩ := H; replace H : ((Qaw.f k t102).bind fun t105 => ((QaZ.f k t105 a2_0 a2_1 a1).bind fun t108 => ((QaJ.f k t102 a2_0 a2_1).bind fun t109 => (Qa6.l0 k t102 a1 t105 t108 t109 0 0 a2_0 a2_1)))) = some r := H; have A4 := Qad.mk A40; clear A40; replace H := Option.bind_eq_some_iff.mp H; obtain ⟨t105, A50, H⟩ := H; replace H : ((QaZ.f k t105 a2_0 a2_1 a1).bind fun t108 => ((QaJ.f k t102 a2_0 a2_1).bind fun t109 => (Qa6.l0 k t102 a1 t105 t108 t109 0 0 a2_0 a2_1))) = some r := H; have A5 := Qad.mk A50; clear A50; replace H := Option.bind_eq_some_iff.mp H; obtain ⟨t108, A60, H⟩ := H; replace H : ((QaJ.f k t102 a2_0 a2_1).bind fun t109 => (Qa6.l0 k t102 a1 t105 t108 t109 0 0 a2_0 a2_1)) = some r := H; have A6 := Qad.mk A60; clear A60; replace H := Option.bind_eq_some_iff.mp H; obtain ⟨t109, A70, H⟩ := H; replace H : (Qa6.l0 k t102 a1 t105 t108 t109 0 0 a2_0 a2_1) = some r := H
 have A7 := Qad.mk A70; clear A70; have H' := Qad.mk H; clear H; go_enter Tryd.func4, Tryd.ntmps4
 go_wp2_with (first | ((with_reducible refine Qa0 (N := 5) rfl ?_); (try (refine gate_guard (by rfl) ?_; dsimp only)); refine QaU ?hg (N := 5) ?hd (cs := #[.string a2_0, .string a2_1]) (t := 33) ?hr ?_; (case hd => rfl); (case hg => rfl); (case hr => first | (go_simp; done) | (go_simp; rfl)); intro gb101 hg w8 hbox hb; have n0_ := Qad.mk (Qal (by repeat (first | (with_reducible first | exact HB.out | apply Qac | apply Qaa | apply Qab) | exact HB.out)) hb); have n1_ := Qad.mk (hbox); have n2_ := Qad.mk ((by rw [hg]; exact (Qap (by repeat (first | (with_reducible first | exact HB.out | apply Qac | apply Qaa | apply Qab) | exact HB.out))) : w.heap.size ≤ gb101)); have n3_ := n2_; clear HB; have HB := n0_; have BK101 := n1_; have GW101 := n2_; have GE101 := n3_; clear n0_ n1_ n2_ n3_; clear hb hbox hg) | (go_at_call 9; (with_reducible refine (Qa5.calls (fun k_ => k_ < w.heap.size) _ _ l0 t102 _ ?side1 A4.out).mono ?_); (case side1 => exact Kd.V_mk HC0.out (Kd.F_below (Kd.C_F k46_heap HR0.out) (by repeat (first | (with_reducible first | exact HB.out | apply Qac | apply Qaa | apply Qab | refine Qaj ?_ GE101.out) | exact HB.out)))); rintro e w9 ⟨v103, rfl, ho0, hb⟩; have n0_ := Qad.mk (Kd.V_lower (Kd.V_mono (ok' := fun k_ => k_ ≠ gb101) ho0 (fun k_ hk_ => Or.elim hk_ (fun hs_ => fun e_ => Nat.not_le.2 hs_ (by rw [e_]; exact GW101.out)) (fun hn_ => (Kd.freshB (g := gb101) (o := ob_ss a2_0 a2_1 33) (by (with_reducible repeat (first | refine Qag ?_ _ | refine Qai ?_ | refine Qaf ?_ _)); exact BK101.out) k_ hn_)))) (Qap (by repeat (first | (with_reducible first | exact HB.out | apply Qac | apply Qaa | apply Qab | refine Qaj ?_ GE101.out) | exact HB.out)))); have n1_ := Qad.mk (QaA (g := gb101) (o := ob_ss a2_0 a2_1 33) (by (with_reducible repeat (first | refine Qag ?_ _ | refine Qai ?_ | refine Qaf ?_ _)); exact BK101.out) hb); have n2_ := Qad.mk (Qal (by repeat (first | (with_reducible first | exact HB.out | apply Qac | apply Qaa | apply Qab | refine Qaj ?_ GE101.out) | exact HB.out)) hb); clear BK101; clear HB; have HO104 := n0_; have BK101 := n1_; have HB := n2_; clear n0_ n1_ n2_; (try clear hb); (try clear hb2); (try clear hk); (try clear hi); (try clear ho0); obtain ⟨Ao10, co10, eo10⟩ := Kd.V_slice HO104.out; subst eo10) | (go_at_call 13; (with_reducible refine (Qaw.calls k _ _ t102 t105 _ ?side1 ?side2 A5.out).mono ?_); (case side1 => repeat (first | exact (Kd.Qa3 HO104.out).2.2 | (with_reducible refine Kd.QaQ ?_ _) | (with_reducible refine Kd.QaR ?_ _) | (with_reducible refine Kd.Qa7 ?_))); (case side2 => exact (Kd.Qa3 HO104.out).2.1); rintro e w11 ⟨v106, rfl, ho0, hb⟩; have n0_ := Qad.mk (Kd.V_elder' (by (with_reducible repeat (first | apply Kd.Qa9 | apply Kd.Qa8 | apply Kd.V_drew)); exact HO104.out) (Kd.R_base ho0) hb); have n1_ := Qad.mk (Kd.R_lower ho0 (Qap (by repeat (first | (with_reducible first | exact HB.out | apply Qac | apply Qaa | apply Qab | refine Qaj ?_ GE101.out) | exact HB.out)))); have n2_ := Qad.mk (QaA (g := gb101) (o := ob_ss a2_0 a2_1 33) (by (with_reducible repeat (first | refine Qag ?_ _ | refine Qai ?_ | refine Qaf ?_ _)); exact BK101.out) hb); have n3_ := Qad.mk (Qal (by repeat (first | (with_reducible first | exact HB.out | apply Qac | apply Qaa | apply Qab | refine Qaj ?_ GE101.out) | exact HB.out)) hb); clear HO104; clear BK101; clear HB; have HO104 := n0_; have HO107 := n1_; have BK101 := n2_; have HB := n3_; clear n0_ n1_ n2_ n3_; (try clear hb); (try clear hb2); (try clear hk); (try clear hi); (try clear ho0); obtain ⟨hcz12_0, hcz12_1⟩ := cz_ss BK101.out; obtain ⟨hfz12_0, hfz12_1⟩ := fz_2 BK101.out; obtain ⟨Ao13, co13, eo13⟩ := Kd.QaT HO107.out; subst eo13) | (go_at_call 15; (with_reducible refine (QaZ.calls k _ _ t105 a2_0 a2_1 a1 t108 _ ?side1 ?side2 A6.out).mono ?_); (case side1 => repeat (first | exact (Kd.Qay HO107.out).2.2 | (with_reducible refine Kd.QaQ ?_ _) | (with_reducible refine Kd.QaR ?_ _) | (with_reducible refine Kd.Qa7 ?_))); (case side2 => exact (Kd.Qay HO107.out).2.1); rintro e w14 ⟨rfl, hb⟩; have n0_ := Qad.mk (Kd.V_below (by (with_reducible repeat (first | apply Kd.Qa9 | apply Kd.Qa8 | apply Kd.V_drew)); exact HO104.out) hb); have n1_ := Qad.mk (Kd.QaC (by (with_reducible repeat (first | apply Kd.Qam | apply Kd.Qan | apply Kd.Qao)); exact HO107.out) hb); have n2_ := Qad.mk (QaA (g := gb101) (o := ob_ss a2_0 a2_1 33) (by (with_reducible repeat (first | refine Qag ?_ _ | refine Qai ?_ | refine Qaf ?_ _)); exact BK101.out) hb); have n3_ := Qad.mk (Qal (by repeat (first | (with_reducible first | exact HB.out | apply Qac | apply Qaa | apply Qab | refine Qaj ?_ GE101.out) | exact HB.out)) hb); clear HO104; clear HO107; clear BK101; clear HB; have HO104 := n0_; have HO107 := n1_; have BK101 := n2_; have HB := n3_; clear n0_ n1_ n2_ n3_; (try clear hb); (try clear hb2); (try clear hk); (try clear hi); obtain ⟨hcz15_0, hcz15_1⟩ := cz_ss BK101.out; obtain ⟨hfz15_0, hfz15_1⟩ := fz_2 BK101.out) | (go_at_call 16; (with_reducible refine (QaJ.calls k _ _ t102 a2_0 a2_1 t109 _ ?side1 ?side2 A7.out).mono ?_); (case side1 => repeat (first | exact (Kd.Qa3 HO104.out).2.2 | (with_reducible refine Kd.QaQ ?_ _) | (with_reducible refine Kd.QaR ?_ _) | (with_reducible refine Kd.Qa7 ?_))); (case side2 => exact (Kd.Qa3 HO104.out).2.1); rintro e w16 ⟨v110, rfl, ho0, hb⟩; have n0_ := Qad.mk (Kd.V_elder' (by (with_reducible repeat (first | apply Kd.Qa9 | apply Kd.Qa8 | apply Kd.V_drew)); exact HO104.out) (Kd.R_base ho0) hb); have n1_ := Qad.mk (Kd.QaC (by (with_reducible repeat (first | apply Kd.Qam | apply Kd.Qan | apply Kd.Qao)); exact HO107.out) hb); have n2_ := Qad.mk (Kd.R_lower ho0 (Qap (by repeat (first | (with_reducible first | exact HB.out | apply Qac | apply Qaa | apply Qab | refine Qaj ?_ GE101.out) | exact HB.out)))); have n3_ := Qad.mk (QaA (g := gb101) (o := ob_ss a2_0 a2_1 33) (by (with_reducible repeat (first | refine Qag ?_ _ | refine Qai ?_ | refine Qaf ?_ _)); exact BK101.out) hb); have n4_ := Qad.mk (Qal (by repeat (first | (with_reducible first | exact HB.out | apply Qac | apply Qaa | apply Qab | refine Qaj ?_ GE101.out) | exact HB.out)) hb); clear HO104; clear HO107; clear BK101; clear HB; have HO104 := n0_; have HO107 := n1_; have HO111 := n2_; have BK101 := n3_; have HB := n4_; clear n0_ n1_ n2_ n3_ n4_; (try clear hb); (try clear hb2); (try clear hk); (try clear hi); (try clear ho0)))
 repeat (go_quiet (first | ((with_reducible refine Qa0 (N := 5) rfl ?_); (try (refine gate_guard (by rfl) ?_; dsimp only)); refine QaU ?hg (N := 5) ?hd (cs := #[.string a2_0, .string a2_1]) (t := 33) ?hr ?_; (case hd => rfl); (case hg => rfl); (case hr => first | (go_simp; done) | (go_simp; rfl)); intro gb101 hg w8 hbox hb; have n0_ := Qad.mk (Qal (by repeat (first | (with_reducible first | exact HB.out | apply Qac | apply Qaa | apply Qab) | exact HB.out)) hb); have n1_ := Qad.mk (hbox); have n2_ := Qad.mk ((by rw [hg]; exact (Qap (by repeat (first | (with_reducible first | exact HB.out | apply Qac | apply Qaa | apply Qab) | exact HB.out))) : w.heap.size ≤ gb101)); have n3_ := n2_; clear HB; have HB := n0_; have BK101 := n1_; have GW101 := n2_; have GE101 := n3_; clear n0_ n1_ n2_ n3_; clear hb hbox hg) | (go_at_call 9; (with_reducible refine (Qa5.calls (fun k_ => k_ < w.heap.size) _ _ l0 t102 _ ?side1 A4.out).mono ?_); (case side1 => exact Kd.V_mk HC0.out (Kd.F_below (Kd.C_F k46_heap HR0.out) (by repeat (first | (with_reducible first | exact HB.out | apply Qac | apply Qaa | apply Qab | refine Qaj ?_ GE101.out) | exact HB.out)))); rintro e w9 ⟨v103, rfl, ho0, hb⟩; have n0_ := Qad.mk (Kd.V_lower (Kd.V_mono (ok' := fun k_ => k_ ≠ gb101) ho0 (fun k_ hk_ => Or.elim hk_ (fun hs_ => fun e_ => Nat.not_le.2 hs_ (by rw [e_]; exact GW101.out)) (fun hn_ => (Kd.freshB (g := gb101) (o := ob_ss a2_0 a2_1 33) (by (with_reducible repeat (first | refine Qag ?_ _ | refine Qai ?_ | refine Qaf ?_ _)); exact BK101.out) k_ hn_)))) (Qap (by repeat (first | (with_reducible first | exact HB.out | apply Qac | apply Qaa | apply Qab | refine Qaj ?_ GE101.out) | exact HB.out)))); have n1_ := Qad.mk (QaA (g := gb101) (o := ob_ss a2_0 a2_1 33) (by (with_reducible repeat (first | refine Qag ?_ _ | refine Qai ?_ | refine Qaf ?_ _)); exact BK101.out) hb); have n2_ := Qad.mk (Qal (by repeat (first | (with_reducible first | exact HB.out | apply Qac | apply Qaa | apply Qab | refine Qaj ?_ GE101.out) | exact HB.out)) hb); clear BK101; clear HB; have HO104 := n0_; have BK101 := n1_; have HB := n2_; clear n0_ n1_ n2_; (try clear hb); (try clear hb2); (try clear hk); (try clear hi); (try clear ho0); obtain ⟨Ao10, co10, eo10⟩ := Kd.V_slice HO104.out; subst eo10) | (go_at_call 13; (with_reducible refine (Qaw.calls k _ _ t102 t105 _ ?side1 ?side2 A5.out).mono ?_); (case side1 => repeat (first | exact (Kd.Qa3 HO104.out).2.2 | (with_reducible refine Kd.QaQ ?_ _) | (with_reducible refine Kd.QaR ?_ _) | (with_reducible refine Kd.Qa7 ?_))); (case side2 => exact (Kd.Qa3 HO104.out).2.1); rintro e w11 ⟨v106, rfl, ho0, hb⟩; have n0_ := Qad.mk (Kd.V_elder' (by (with_reducible repeat (first | apply Kd.Qa9 | apply Kd.Qa8 | apply Kd.V_drew)); exact HO104.out) (Kd.R_base ho0) hb); have n1_ := Qad.mk (Kd.R_lower ho0 (Qap (by repeat (first | (with_reducible first | exact HB.out | apply Qac | apply Qaa | apply Qab | refine Qaj ?_ GE101.out) | exact HB.out)))); have n2_ := Qad.mk (QaA (g := gb101) (o := ob_ss a2_0 a2_1 33) (by (with_reducible repeat (first | refine Qag ?_ _ | refine Qai ?_ | refine Qaf ?_ _)); exact BK101.out) hb); have n3_ := Qad.mk (Qal (by repeat (first | (with_reducible first | exact HB.out | apply Qac | apply Qaa | apply Qab | refine Qaj ?_ GE101.out) | exact HB.out)) hb); clear HO104; clear BK101; clear HB; have HO104 := n0_; have HO107 := n1_; have BK101 := n2_; have HB := n3_; clear n0_ n1_ n2_ n3_; (try clear hb); (try clear hb2); (try clear hk); (try clear hi); (try clear ho0); obtain ⟨hcz12_0, hcz12_1⟩ := cz_ss BK101.out; obtain ⟨hfz12_0, hfz12_1⟩ := fz_2 BK101.out; obtain ⟨Ao13, co13, eo13⟩ := Kd.QaT HO107.out; subst eo13) | (go_at_call 15; (with_reducible refine (QaZ.calls k _ _ t105 a2_0 a2_1 a1 t108 _ ?side1 ?side2 A6.out).mono ?_); (case side1 => repeat (first | exact (Kd.Qay HO107.out).2.2 | (with_reducible refine Kd.QaQ ?_ _) | (with_reducible refine Kd.QaR ?_ _) | (with_reducible refine Kd.Qa7 ?_))); (case side2 => exact (Kd.Qay HO107.out).2.1); rintro e w14 ⟨rfl, hb⟩; have n0_ := Qad.mk (Kd.V_below (by (with_reducible repeat (first | apply Kd.Qa9 | apply Kd.Qa8 | apply Kd.V_drew)); exact HO104.out) hb); have n1_ := Qad.mk (Kd.QaC (by (with_reducible repeat (first | apply Kd.Qam | apply Kd.Qan | apply Kd.Qao)); exact HO107.out) hb); have n2_ := Qad.mk (QaA (g := gb101) (o := ob_ss a2_0 a2_1 33) (by (with_reducible repeat (first | refine Qag ?_ _ | refine Qai ?_ | refine Qaf ?_ _)); exact BK101.out) hb); have n3_ := Qad.mk (Qal (by repeat (first | (with_reducible first | exact HB.out | apply Qac | apply Qaa | apply Qab | refine Qaj ?_ GE101.out) | exact HB.out)) hb); clear HO104; clear HO107; clear BK101; clear HB; have HO104 := n0_; have HO107 := n1_; have BK101 := n2_; have HB := n3_; clear n0_ n1_ n2_ n3_; (try clear hb); (try clear hb2); (try clear hk); (try clear hi); obtain ⟨hcz15_0, hcz15_1⟩ := cz_ss BK101.out; obtain ⟨hfz15_0, hfz15_1⟩ := fz_2 BK101.out) | (go_at_call 16; (with_reducible refine (QaJ.calls k _ _ t102 a2_0 a2_1 t109 _ ?side1 ?side2 A7.out).mono ?_); (case side1 => repeat (first | exact (Kd.Qa3 HO104.out).2.2 | (with_reducible refine Kd.QaQ ?_ _) | (with_reducible refine Kd.QaR ?_ _) | (with_reducible refine Kd.Qa7 ?_))); (case side2 => exact (Kd.Qa3 HO104.out).2.1); rintro e w16 ⟨v110, rfl, ho0, hb⟩; have n0_ := Qad.mk (Kd.V_elder' (by (with_reducible repeat (first | apply Kd.Qa9 | apply Kd.Qa8 | apply Kd.V_drew)); exact HO104.out) (Kd.R_base ho0) hb); have n1_ := Qad.mk (Kd.QaC (by (with_reducible repeat (first | apply Kd.Qam | apply Kd.Qan | apply Kd.Qao)); exact HO107.out) hb); have n2_ := Qad.mk (Kd.R_lower ho0 (Qap (by repeat (first | (with_reducible first | exact HB.out | apply Qac | apply Qaa | apply Qab | refine Qaj ?_ GE101.out) | exact HB.out)))); have n3_ := Qad.mk (QaA (g := gb101) (o := ob_ss a2_0 a2_1 33) (by (with_reducible repeat (first | refine Qag ?_ _ | refine Qai ?_ | refine Qaf ?_ _)); exact BK101.out) hb); have n4_ := Qad.mk (Qal (by repeat (first | (with_reducible first | exact HB.out | apply Qac | apply Qaa | apply Qab | refine Qaj ?_ GE101.out) | exact HB.out)) hb); clear HO104; clear HO107; clear BK101; clear HB; have HO104 := n0_; have HO107 := n1_; have HO111 := n2_; have BK101 := n3_; have HB := n4_; clear n0_ n1_ n2_ n3_ n4_; (try clear hb); (try clear hb2); (try clear hk); (try clear hi); (try clear ho0))); try go_wp2_with (first | ((with_reducible refine Qa0 (N := 5) rfl ?_); (try (refine gate_guard (by rfl) ?_; dsimp only)); refine QaU ?hg (N := 5) ?hd (cs := #[.string a2_0, .string a2_1]) (t := 33) ?hr ?_; (case hd => rfl); (case hg => rfl); (case hr => first | (go_simp; done) | (go_simp; rfl)); intro gb101 hg w8 hbox hb; have n0_ := Qad.mk (Qal (by repeat (first | (with_reducible first | exact HB.out | apply Qac | apply Qaa | apply Qab) | exact HB.out)) hb); have n1_ := Qad.mk (hbox); have n2_ := Qad.mk ((by rw [hg]; exact (Qap (by repeat (first | (with_reducible first | exact HB.out | apply Qac | apply Qaa | apply Qab) | exact HB.out))) : w.heap.size ≤ gb101)); have n3_ := n2_; clear HB; have HB := n0_; have BK101 := n1_; have GW101 := n2_; have GE101 := n3_; clear n0_ n1_ n2_ n3_; clear hb hbox hg) | (go_at_call 9; (with_reducible refine (Qa5.calls (fun k_ => k_ < w.heap.size) _ _ l0 t102 _ ?side1 A4.out).mono ?_); (case side1 => exact Kd.V_mk HC0.out (Kd.F_below (Kd.C_F k46_heap HR0.out) (by repeat (first | (with_reducible first | exact HB.out | apply Qac | apply Qaa | apply Qab | refine Qaj ?_ GE101.out) | exact HB.out)))); rintro e w9 ⟨v103, rfl, ho0, hb⟩; have n0_ := Qad.mk (Kd.V_lower (Kd.V_mono (ok' := fun k_ => k_ ≠ gb101) ho0 (fun k_ hk_ => Or.elim hk_ (fun hs_ => fun e_ => Nat.not_le.2 hs_ (by rw [e_]; exact GW101.out)) (fun hn_ => (Kd.freshB (g := gb101) (o := ob_ss a2_0 a2_1 33) (by (with_reducible repeat (first | refine Qag ?_ _ | refine Qai ?_ | refine Qaf ?_ _)); exact BK101.out) k_ hn_)))) (Qap (by repeat (first | (with_reducible first | exact HB.out | apply Qac | apply Qaa | apply Qab | refine Qaj ?_ GE101.out) | exact HB.out)))); have n1_ := Qad.mk (QaA (g := gb101) (o := ob_ss a2_0 a2_1 33) (by (with_reducible repeat (first | refine Qag ?_ _ | refine Qai ?_ | refine Qaf ?_ _)); exact BK101.out) hb); have n2_ := Qad.mk (Qal (by repeat (first | (with_reducible first | exact HB.out | apply Qac | apply Qaa | apply Qab | refine Qaj ?_ GE101.out) | exact HB.out)) hb); clear BK101; clear HB; have HO104 := n0_; have BK101 := n1_; have HB := n2_; clear n0_ n1_ n2_; (try clear hb); (try clear hb2); (try clear hk); (try clear hi); (try clear ho0); obtain ⟨Ao10, co10, eo10⟩ := Kd.V_slice HO104.out; subst eo10) | (go_at_call 13; (with_reducible refine (Qaw.calls k _ _ t102 t105 _ ?side1 ?side2 A5.out).mono ?_); (case side1 => repeat (first | exact (Kd.Qa3 HO104.out).2.2 | (with_reducible refine Kd.QaQ ?_ _) | (with_reducible refine Kd.QaR ?_ _) | (with_reducible refine Kd.Qa7 ?_))); (case side2 => exact (Kd.Qa3 HO104.out).2.1); rintro e w11 ⟨v106, rfl, ho0, hb⟩; have n0_ := Qad.mk (Kd.V_elder' (by (with_reducible repeat (first | apply Kd.Qa9 | apply Kd.Qa8 | apply Kd.V_drew)); exact HO104.out) (Kd.R_base ho0) hb); have n1_ := Qad.mk (Kd.R_lower ho0 (Qap (by repeat (first | (with_reducible first | exact HB.out | apply Qac | apply Qaa | apply Qab | refine Qaj ?_ GE101.out) | exact HB.out)))); have n2_ := Qad.mk (QaA (g := gb101) (o := ob_ss a2_0 a2_1 33) (by (with_reducible repeat (first | refine Qag ?_ _ | refine Qai ?_ | refine Qaf ?_ _)); exact BK101.out) hb); have n3_ := Qad.mk (Qal (by repeat (first | (with_reducible first | exact HB.out | apply Qac | apply Qaa | apply Qab | refine Qaj ?_ GE101.out) | exact HB.out)) hb); clear HO104; clear BK101; clear HB; have HO104 := n0_; have HO107 := n1_; have BK101 := n2_; have HB := n3_; clear n0_ n1_ n2_ n3_; (try clear hb); (try clear hb2); (try clear hk); (try clear hi); (try clear ho0); obtain ⟨hcz12_0, hcz12_1⟩ := cz_ss BK101.out; obtain ⟨hfz12_0, hfz12_1⟩ := fz_2 BK101.out; obtain ⟨Ao13, co13, eo13⟩ := Kd.QaT HO107.out; subst eo13) | (go_at_call 15; (with_reducible refine (QaZ.calls k _ _ t105 a2_0 a2_1 a1 t108 _ ?side1 ?side2 A6.out).mono ?_); (case side1 => repeat (first | exact (Kd.Qay HO107.out).2.2 | (with_reducible refine Kd.QaQ ?_ _) | (with_reducible refine Kd.QaR ?_ _) | (with_reducible refine Kd.Qa7 ?_))); (case side2 => exact (Kd.Qay HO107.out).2.1); rintro e w14 ⟨rfl, hb⟩; have n0_ := Qad.mk (Kd.V_below (by (with_reducible repeat (first | apply Kd.Qa9 | apply Kd.Qa8 | apply Kd.V_drew)); exact HO104.out) hb); have n1_ := Qad.mk (Kd.QaC (by (with_reducible repeat (first | apply Kd.Qam | apply Kd.Qan | apply Kd.Qao)); exact HO107.out) hb); have n2_ := Qad.mk (QaA (g := gb101) (o := ob_ss a2_0 a2_1 33) (by (with_reducible repeat (first | refine Qag ?_ _ | refine Qai ?_ | refine Qaf ?_ _)); exact BK101.out) hb); have n3_ := Qad.mk (Qal (by repeat (first | (with_reducible first | exact HB.out | apply Qac | apply Qaa | apply Qab | refine Qaj ?_ GE101.out) | exact HB.out)) hb); clear HO104; clear HO107; clear BK101; clear HB; have HO104 := n0_; have HO107 := n1_; have BK101 := n2_; have HB := n3_; clear n0_ n1_ n2_ n3_; (try clear hb); (try clear hb2); (try clear hk); (try clear hi); obtain ⟨hcz15_0, hcz15_1⟩ := cz_ss BK101.out; obtain ⟨hfz15_0, hfz15_1⟩ := fz_2 BK101.out) | (go_at_call 16; (with_reducible refine (QaJ.calls k _ _ t102 a2_0 a2_1 t109 _ ?side1 ?side2 A7.out).mono ?_); (case side1 => repeat (first | exact (Kd.Qa3 HO104.out).2.2 | (with_reducible refine Kd.QaQ ?_ _) | (with_reducible refine Kd.QaR ?_ _) | (with_reducible refine Kd.Qa7 ?_))); (case side2 => exact (Kd.Qa3 HO104.out).2.1); rintro e w16 ⟨v110, rfl, ho0, hb⟩; have n0_ := Qad.mk (Kd.V_elder' (by (with_reducible repeat (first | apply Kd.Qa9 | apply Kd.Qa8 | apply Kd.V_drew)); exact HO104.out) (Kd.R_base ho0) hb); have n1_ := Qad.mk (Kd.QaC (by (with_reducible repeat (first | apply Kd.Qam | apply Kd.Qan | apply Kd.Qao)); exact HO107.out) hb); have n2_ := Qad.mk (Kd.R_lower ho0 (Qap (by repeat (first | (with_reducible first | exact HB.out | apply Qac | apply Qaa | apply Qab | refine Qaj ?_ GE101.out) | exact HB.out)))); have n3_ := Qad.mk (QaA (g := gb101) (o := ob_ss a2_0 a2_1 33) (by (with_reducible repeat (first | refine Qag ?_ _ | refine Qai ?_ | refine Qaf ?_ _)); exact BK101.out) hb); have n4_ := Qad.mk (Qal (by repeat (first | (with_reducible first | exact HB.out | apply Qac | apply Qaa | apply Qab | refine Qaj ?_ GE101.out) | exact HB.out)) hb); clear HO104; clear HO107; clear BK101; clear HB; have HO104 := n0_; have HO107 := n1_; have HO111 := n2_; have BK101 := n3_; have HB := n4_; clear n0_ n1_ n2_ n3_ n4_; (try clear hb); (try clear hb2); (try clear hk); (try clear hi); (try clear ho0))))
 go_loopg [10, 11] k (fun kq v10 v11 w' => ∃ (x10_1 : Int) (x11_1 : Int), v10 = .int .i64 x10_1 ∧ v11 = .int .i64 x11_1 ∧ Qad (Qa6.l0 kq t102 a1 t105 t108 t109 x10_1 x11_1 a2_0 a2_1 = some r) ∧ Qad (kq ≤ k) ∧ Qad (Kd.V k46 46 w' w.heap.size (fun k_ => some k_ ≠ ((.slice Ao13 t105.length co13) : Value).ownBlock ∧ some k_ ≠ (v110 : Value).ownBlock ∧ k_ ≠ gb101) (.slice Ao10 t102.length co10) t102) ∧ Qad (Kd.R k36 36 w' w.heap.size (fun _ => True) (.slice Ao13 t105.length co13) t105) ∧ Qad (Kd.R Kd.string 9 w' w.heap.size (fun _ => True) v110 t109) ∧ Qad (w'.heap[gb101]? = some (.cells #[.string a2_0, .string a2_1] 33 (0, 0))) ∧ Qad (Below w.heap.size w w'))
 case atStart => exact ⟨(0), (0), (by first | rfl | (simp; done) | (simp [*]; done)), (by first | rfl | (simp; done) | (simp [*]; done)), H', ⟨Nat.le_refl _⟩, ⟨by (with_reducible repeat (first | apply Kd.Qa9 | apply Kd.Qa8 | apply Kd.V_drew)); exact Kd.V_mono HO104.out (fun _ hk => ⟨hk.1.2, ⟨hk.2, hk.1.1⟩⟩)⟩, ⟨by (with_reducible repeat (first | apply Kd.Qam | apply Kd.Qan | apply Kd.Qao)); exact HO107.out⟩, ⟨by (with_reducible repeat (first | apply Kd.Qam | apply Kd.Qan | apply Kd.Qao)); exact HO111.out⟩, ⟨by (with_reducible repeat (first | refine Qag ?_ _ | refine Qai ?_ | refine Qaf ?_ _)); exact BK101.out⟩, ⟨by repeat (first | (with_reducible first | exact HB.out | apply Qac | apply Qaa | apply Qab | refine Qaj ?_ GE101.out) | exact HB.out)⟩⟩
 case round =>
  clear H'; (try clear p2); (try clear c4); (try clear hcz12_0); (try clear hcz12_1); (try clear hcz15_0); (try clear hcz15_1); (try clear hfz12_0); (try clear hfz12_1); (try clear hfz15_0); (try clear hfz15_1); obtain ⟨x10_1, x11_1, rfl, rfl, HA, HK1, HO_0, HO_7, HO_9, BK101, HB⟩ := hrel
  cases gk with
  | zero => exact absurd HA.out (by simp [Qa6.l0])
  | succ k1 =>
   have H := HA.out; clear HA; simp only [Qa6.l0] at H
   by_cases c17 : x11_1 < (t105.length : Int)
   ·rw [if_pos c17] at H; have c17b0 : decide (x11_1 < (t105.length : Int)) = true := decide_eq_true c17; clear c17
    by_cases c18 : 0 ≤ x11_1
    ·rw [if_pos c18] at H; have c18b0 : decide (0 ≤ x11_1) = true := decide_eq_true c18; clear c18
     by_cases c19 : ((((Qav t105 x11_1).f0.f0).toList) == a2_0.toList && ((((Qav t105 x11_1).f0.f1).toList) == a2_1.toList)) = true
     ·rw [if_pos c19] at H; have c19b0 : ((((Qav t105 x11_1).f0.f0).toList) == a2_0.toList && ((((Qav t105 x11_1).f0.f1).toList) == a2_1.toList)) = true := c19
      (try (have c19b1 : decide ((((Qav t105 x11_1).f0.f0).toList) = a2_0.toList && ((((Qav t105 x11_1).f0.f1).toList) == a2_1.toList)) = true := by simpa using c19))
      (try (have c19b2 : ((((Qav t105 x11_1).f0.f0).toList) == a2_0.toList && ((((Qav t105 x11_1).f0.f1).toList) == a2_1.toList)) = true := by simpa using c19))
      clear c19
      by_cases c20 : x10_1 ≥ (t109.length : Int)
      ·rw [if_pos c20] at H; have c20b0 : decide ((t109.length : Int) ≤ x10_1) = true := decide_eq_true c20; clear c20; obtain rfl := Option.some.inj H; have p114 : 0 ≤ (x11_1 : Int) := of_decide_eq_true (by first | (with_reducible assumption) | assumption); have q114 : x11_1 < (t105.length : Int) := of_decide_eq_true (by first | (with_reducible assumption) | assumption); obtain ⟨ad114, e114, hx114_0, hx114_1, hx114_2⟩ := at_T36 (Kd.Qay HO_7.out).2.2 x11_1 p114 q114; cases e114; replace p114 := eq_true p114; replace q114 := eq_true q114; have hcz21_0 : wr.cell? ⟨gb101, 0, none⟩ = some (.string a2_0) := (Qak BK101.out 0).trans rfl; have hcz21_1 : wr.cell? ⟨gb101, 1, none⟩ = some (.string a2_1) := (Qak BK101.out 1).trans rfl; obtain ⟨hfz21_0, hfz21_1⟩ := fz_2 BK101.out; obtain ⟨Ao22, co22, eo22⟩ := Kd.QaT HO_9.out; subst eo22; go_wp2
       repeat (go_quiet (fail); try go_wp2)
       go_ret; exact ⟨by first | rfl | (simp [Qau, Qat] <;> rfl) | (simp [*, Qau, Qat] <;> rfl), by repeat (first | (with_reducible first | exact HB.out | apply Qac | apply Qaa | apply Qab | refine Qaj ?_ GE101.out) | exact HB.out)⟩
      ·rw [if_neg c20] at H; have c20b0 : decide ((t109.length : Int) ≤ x10_1) = false := decide_eq_false c20; clear c20
       by_cases c23 : 0 ≤ x10_1
       ·rw [if_pos c23] at H; have c23b0 : decide (0 ≤ x10_1) = true := decide_eq_true c23; clear c23
        by_cases c24 : x10_1 < (t109.length : Int)
        ·rw [if_pos c24] at H; have c24b0 : decide (x10_1 < (t109.length : Int)) = true := decide_eq_true c24; clear c24
         by_cases c25 : (rdOf ByteArray.empty t109 x10_1).toList = ((Qav t105 x11_1).f1).toList
         ·rw [if_pos c25] at H; have c25b0 : ((rdOf ByteArray.empty t109 x10_1).toList == ((Qav t105 x11_1).f1).toList) = true := beq_iff_eq.mpr c25; have c25b1 : ((rdOf ByteArray.empty t109 x10_1).toList != ((Qav t105 x11_1).f1).toList) = false := bne_eq_false_iff_eq.mpr c25; clear c25; have H' := Qad.mk H; clear H; have p114 : 0 ≤ (x11_1 : Int) := of_decide_eq_true (by first | (with_reducible assumption) | assumption); have q114 : x11_1 < (t105.length : Int) := of_decide_eq_true (by first | (with_reducible assumption) | assumption); obtain ⟨ad114, e114, hx114_0, hx114_1, hx114_2⟩ := at_T36 (Kd.Qay HO_7.out).2.2 x11_1 p114 q114; cases e114; replace p114 := eq_true p114; replace q114 := eq_true q114; have hcz26_0 : wr.cell? ⟨gb101, 0, none⟩ = some (.string a2_0) := (Qak BK101.out 0).trans rfl; have hcz26_1 : wr.cell? ⟨gb101, 1, none⟩ = some (.string a2_1) := (Qak BK101.out 1).trans rfl; obtain ⟨hfz26_0, hfz26_1⟩ := fz_2 BK101.out; obtain ⟨Ao27, co27, eo27⟩ := Kd.QaT HO_9.out; subst eo27; have p115 : 0 ≤ (x10_1 : Int) := of_decide_eq_true (by first | (with_reducible assumption) | assumption); have q115 : x10_1 < (t109.length : Int) := of_decide_eq_true (by first | (with_reducible assumption) | assumption); obtain ⟨ad115, e115, hx115_0⟩ := Kd.at_string (Kd.Qay HO_9.out).2.2 x10_1 p115 q115; cases e115; replace p115 := eq_true p115; replace q115 := eq_true q115; have p116 : 0 ≤ (x11_1 : Int) := of_decide_eq_true (by first | (with_reducible assumption) | assumption)
          have q116 : x11_1 < (t105.length : Int) := of_decide_eq_true (by first | (with_reducible assumption) | assumption); obtain ⟨ad116, e116, hx116_0, hx116_1, hx116_2⟩ := at_T36 (Kd.Qay HO_7.out).2.2 x11_1 p116 q116
          obtain rfl : ad114 = ad116 := (by injection e116)
          replace p116 := eq_true p116; replace q116 := eq_true q116; go_wp2
          repeat (go_quiet (fail); try go_wp2)
          go_roundg k1
          case measure => have := HK1.out; omega
          case rel => exact ⟨(wrap64 (x10_1 + 1)), (wrap64 (x11_1 + 1)), (by first | rfl | (simp; done) | (simp [*]; done)), (by first | rfl | (simp; done) | (simp [*]; done)), H', ⟨by have := HK1.out; omega⟩, ⟨by (with_reducible repeat (first | apply Kd.Qa9 | apply Kd.Qa8 | apply Kd.V_drew)); exact HO_0.out⟩, ⟨by (with_reducible repeat (first | apply Kd.Qam | apply Kd.Qan | apply Kd.Qao)); exact HO_7.out⟩, ⟨by (with_reducible repeat (first | apply Kd.Qam | apply Kd.Qan | apply Kd.Qao)); exact HO_9.out⟩, ⟨by (with_reducible repeat (first | refine Qag ?_ _ | refine Qai ?_ | refine Qaf ?_ _)); exact BK101.out⟩, ⟨by repeat (first | (with_reducible first | exact HB.out | apply Qac | apply Qaa | apply Qab | refine Qaj ?_ GE101.out) | exact HB.out)⟩⟩
         ·rw [if_neg c25] at H; have c25b0 : ((rdOf ByteArray.empty t109 x10_1).toList == ((Qav t105 x11_1).f1).toList) = false := beq_eq_false_iff_ne.mpr c25; have c25b1 : ((rdOf ByteArray.empty t109 x10_1).toList != ((Qav t105 x11_1).f1).toList) = true := bne_iff_ne.mpr c25; obtain rfl := Option.some.inj H; have p114 : 0 ≤ (x11_1 : Int) := of_decide_eq_true (by first | (with_reducible assumption) | assumption); have q114 : x11_1 < (t105.length : Int) := of_decide_eq_true (by first | (with_reducible assumption) | assumption); obtain ⟨ad114, e114, hx114_0, hx114_1, hx114_2⟩ := at_T36 (Kd.Qay HO_7.out).2.2 x11_1 p114 q114; cases e114; replace p114 := eq_true p114; replace q114 := eq_true q114; have hcz28_0 : wr.cell? ⟨gb101, 0, none⟩ = some (.string a2_0) := (Qak BK101.out 0).trans rfl; have hcz28_1 : wr.cell? ⟨gb101, 1, none⟩ = some (.string a2_1) := (Qak BK101.out 1).trans rfl; obtain ⟨hfz28_0, hfz28_1⟩ := fz_2 BK101.out; obtain ⟨Ao29, co29, eo29⟩ := Kd.QaT HO_9.out; subst eo29; have p115 : 0 ≤ (x10_1 : Int) := of_decide_eq_true (by first | (with_reducible assumption) | assumption); have q115 : x10_1 < (t109.length : Int) := of_decide_eq_true (by first | (with_reducible assumption) | assumption); obtain ⟨ad115, e115, hx115_0⟩ := Kd.at_string (Kd.Qay HO_9.out).2.2 x10_1 p115 q115; cases e115; replace p115 := eq_true p115; replace q115 := eq_true q115; have p116 : 0 ≤ (x11_1 : Int) := of_decide_eq_true (by first | (with_reducible assumption) | assumption)
          have q116 : x11_1 < (t105.length : Int) := of_decide_eq_true (by first | (with_reducible assumption) | assumption); obtain ⟨ad116, e116, hx116_0, hx116_1, hx116_2⟩ := at_T36 (Kd.Qay HO_7.out).2.2 x11_1 p116 q116
          obtain rfl : ad114 = ad116 := (by injection e116)
          replace p116 := eq_true p116; replace q116 := eq_true q116; go_wp2
          repeat (go_quiet (fail); try go_wp2)
          go_ret; exact ⟨by first | rfl | (simp [Qau, Qat] <;> rfl) | (simp [*, Qau, Qat] <;> rfl), by repeat (first | (with_reducible first | exact HB.out | apply Qac | apply Qaa | apply Qab | refine Qaj ?_ GE101.out) | exact HB.out)⟩
        ·rw [if_neg c24] at H; exact absurd H (by simp)
       ·rw [if_neg c23] at H; exact absurd H (by simp)
     ·rw [if_neg c19] at H
      have c19b0 : ((((Qav t105 x11_1).f0.f0).toList) == a2_0.toList && ((((Qav t105 x11_1).f0.f1).toList) == a2_1.toList)) = false := by simpa using c19
      (try (have c19b1 : decide ((((Qav t105 x11_1).f0.f0).toList) = a2_0.toList && ((((Qav t105 x11_1).f0.f1).toList) == a2_1.toList)) = false := by simpa using c19))
      (try (have c19b2 : ((((Qav t105 x11_1).f0.f0).toList) == a2_0.toList && ((((Qav t105 x11_1).f0.f1).toList) == a2_1.toList)) = false := by simpa using c19))
      (try (have c19b3 : ¬ ((((Qav t105 x11_1).f0.f0).toList) = a2_0.toList && ((((Qav t105 x11_1).f0.f1).toList) == a2_1.toList)) := by simpa using c19))
      clear c19; have H' := Qad.mk H; clear H; have p114 : 0 ≤ (x11_1 : Int) := of_decide_eq_true (by first | (with_reducible assumption) | assumption); have q114 : x11_1 < (t105.length : Int) := of_decide_eq_true (by first | (with_reducible assumption) | assumption); obtain ⟨ad114, e114, hx114_0, hx114_1, hx114_2⟩ := at_T36 (Kd.Qay HO_7.out).2.2 x11_1 p114 q114; cases e114; replace p114 := eq_true p114; replace q114 := eq_true q114; have hcz30_0 : wr.cell? ⟨gb101, 0, none⟩ = some (.string a2_0) := (Qak BK101.out 0).trans rfl; have hcz30_1 : wr.cell? ⟨gb101, 1, none⟩ = some (.string a2_1) := (Qak BK101.out 1).trans rfl; obtain ⟨hfz30_0, hfz30_1⟩ := fz_2 BK101.out; go_wp2
      repeat (go_quiet (fail); try go_wp2)
      go_roundg k1
      case measure => have := HK1.out; omega
      case rel => exact ⟨(x10_1), (wrap64 (x11_1 + 1)), (by first | rfl | (simp; done) | (simp [*]; done)), (by first | rfl | (simp; done) | (simp [*]; done)), H', ⟨by have := HK1.out; omega⟩, ⟨by (with_reducible repeat (first | apply Kd.Qa9 | apply Kd.Qa8 | apply Kd.V_drew)); exact HO_0.out⟩, ⟨by (with_reducible repeat (first | apply Kd.Qam | apply Kd.Qan | apply Kd.Qao)); exact HO_7.out⟩, ⟨by (with_reducible repeat (first | apply Kd.Qam | apply Kd.Qan | apply Kd.Qao)); exact HO_9.out⟩, ⟨by (with_reducible repeat (first | refine Qag ?_ _ | refine Qai ?_ | refine Qaf ?_ _)); exact BK101.out⟩, ⟨by repeat (first | (with_reducible first | exact HB.out | apply Qac | apply Qaa | apply Qab | refine Qaj ?_ GE101.out) | exact HB.out)⟩⟩
    ·rw [if_neg c18] at H; exact absurd H (by simp)
   ·rw [if_neg c17] at H; have c17b0 : decide (x11_1 < (t105.length : Int)) = false := decide_eq_false c17; clear c17; replace H := Option.bind_eq_some_iff.mp H; obtain ⟨t112, A310, H⟩ := H; replace H : (if (t112 == t108) = true then (if x10_1 = (t109.length : Int) then ((QaH.f k1).bind fun t113 => (some t113)) else (some false)) else (some false)) = some r := H; have A31 := Qad.mk A310; clear A310
    by_cases c32 : (t112 == t108) = true
    ·rw [if_pos c32] at H; have c32b0 : (t112 == t108) = true := c32
     (try (have c32b1 : decide (t112 = t108) = true := by simpa using c32))
     (try (have c32b2 : (t112 == t108) = true := by simpa using c32))
     clear c32
     by_cases c33 : x10_1 = (t109.length : Int)
     ·rw [if_pos c33] at H; have c33b0 : (x10_1 == (t109.length : Int)) = true := beq_iff_eq.mpr c33; have c33b1 : (x10_1 != (t109.length : Int)) = false := bne_eq_false_iff_eq.mpr c33; clear c33; replace H := Option.bind_eq_some_iff.mp H; obtain ⟨t113, A340, H⟩ := H; replace H : (some t113) = some r := H; have A34 := Qad.mk A340; clear A340; obtain rfl := Option.some.inj H; have hcz35_0 : wr.cell? ⟨gb101, 0, none⟩ = some (.string a2_0) := (Qak BK101.out 0).trans rfl; have hcz35_1 : wr.cell? ⟨gb101, 1, none⟩ = some (.string a2_1) := (Qak BK101.out 1).trans rfl; obtain ⟨hfz35_0, hfz35_1⟩ := fz_2 BK101.out
      go_wp2_with (first | (go_at_call 17; (with_reducible refine (solve_Has.calls k1 _ _ t102 a1 a2_0 a2_1 t112 _ ?side1 ?side2 A31.out).mono ?_); (case side1 => repeat (first | exact (Kd.Qa3 HO_0.out).2.2 | (with_reducible refine Kd.QaQ ?_ _) | (with_reducible refine Kd.QaR ?_ _) | (with_reducible refine Kd.Qa7 ?_))); (case side2 => exact (Kd.Qa3 HO_0.out).2.1); rintro e w36 ⟨rfl, hb⟩; have n0_ := Qad.mk (Kd.V_below (by (with_reducible repeat (first | apply Kd.Qa9 | apply Kd.Qa8 | apply Kd.V_drew)); exact HO_0.out) hb); have n1_ := Qad.mk (Kd.QaC (by (with_reducible repeat (first | apply Kd.Qam | apply Kd.Qan | apply Kd.Qao)); exact HO_7.out) hb); have n2_ := Qad.mk (Kd.QaC (by (with_reducible repeat (first | apply Kd.Qam | apply Kd.Qan | apply Kd.Qao)); exact HO_9.out) hb); have n3_ := Qad.mk (QaA (g := gb101) (o := ob_ss a2_0 a2_1 33) (by (with_reducible repeat (first | refine Qag ?_ _ | refine Qai ?_ | refine Qaf ?_ _)); exact BK101.out) hb); have n4_ := Qad.mk (Qal (by repeat (first | (with_reducible first | exact HB.out | apply Qac | apply Qaa | apply Qab | refine Qaj ?_ GE101.out) | exact HB.out)) hb); clear HO_0; clear HO_7; clear HO_9; clear BK101; clear HB; have HO_0 := n0_; have HO_7 := n1_; have HO_9 := n2_; have BK101 := n3_; have HB := n4_; clear n0_ n1_ n2_ n3_ n4_; (try clear hb); (try clear hb2); (try clear hk); (try clear hi); obtain ⟨Ao37, co37, eo37⟩ := Kd.QaT HO_9.out; subst eo37) | (go_at_call 14; (with_reducible refine (QaH.calls k1  t113 _ A34.out).mono ?_); rintro e w38 ⟨rfl, hb⟩; have n0_ := Qad.mk (Kd.V_below (by (with_reducible repeat (first | apply Kd.Qa9 | apply Kd.Qa8 | apply Kd.V_drew)); exact HO_0.out) hb); have n1_ := Qad.mk (Kd.QaC (by (with_reducible repeat (first | apply Kd.Qam | apply Kd.Qan | apply Kd.Qao)); exact HO_7.out) hb); have n2_ := Qad.mk (Kd.QaC (by (with_reducible repeat (first | apply Kd.Qam | apply Kd.Qan | apply Kd.Qao)); exact HO_9.out) hb); have n3_ := Qad.mk (QaA (g := gb101) (o := ob_ss a2_0 a2_1 33) (by (with_reducible repeat (first | refine Qag ?_ _ | refine Qai ?_ | refine Qaf ?_ _)); exact BK101.out) hb); have n4_ := Qad.mk (Qal (by repeat (first | (with_reducible first | exact HB.out | apply Qac | apply Qaa | apply Qab | refine Qaj ?_ GE101.out) | exact HB.out)) hb); clear HO_0; clear HO_7; clear HO_9; clear BK101; clear HB; have HO_0 := n0_; have HO_7 := n1_; have HO_9 := n2_; have BK101 := n3_; have HB := n4_; clear n0_ n1_ n2_ n3_ n4_; (try clear hb); (try clear hb2); (try clear hk); (try clear hi)))
      repeat (go_quiet (first | (go_at_call 17; (with_reducible refine (solve_Has.calls k1 _ _ t102 a1 a2_0 a2_1 t112 _ ?side1 ?side2 A31.out).mono ?_); (case side1 => repeat (first | exact (Kd.Qa3 HO_0.out).2.2 | (with_reducible refine Kd.QaQ ?_ _) | (with_reducible refine Kd.QaR ?_ _) | (with_reducible refine Kd.Qa7 ?_))); (case side2 => exact (Kd.Qa3 HO_0.out).2.1); rintro e w36 ⟨rfl, hb⟩; have n0_ := Qad.mk (Kd.V_below (by (with_reducible repeat (first | apply Kd.Qa9 | apply Kd.Qa8 | apply Kd.V_drew)); exact HO_0.out) hb); have n1_ := Qad.mk (Kd.QaC (by (with_reducible repeat (first | apply Kd.Qam | apply Kd.Qan | apply Kd.Qao)); exact HO_7.out) hb); have n2_ := Qad.mk (Kd.QaC (by (with_reducible repeat (first | apply Kd.Qam | apply Kd.Qan | apply Kd.Qao)); exact HO_9.out) hb); have n3_ := Qad.mk (QaA (g := gb101) (o := ob_ss a2_0 a2_1 33) (by (with_reducible repeat (first | refine Qag ?_ _ | refine Qai ?_ | refine Qaf ?_ _)); exact BK101.out) hb); have n4_ := Qad.mk (Qal (by repeat (first | (with_reducible first | exact HB.out | apply Qac | apply Qaa | apply Qab | refine Qaj ?_ GE101.out) | exact HB.out)) hb); clear HO_0; clear HO_7; clear HO_9; clear BK101; clear HB; have HO_0 := n0_; have HO_7 := n1_; have HO_9 := n2_; have BK101 := n3_; have HB := n4_; clear n0_ n1_ n2_ n3_ n4_; (try clear hb); (try clear hb2); (try clear hk); (try clear hi); obtain ⟨Ao37, co37, eo37⟩ := Kd.QaT HO_9.out; subst eo37) | (go_at_call 14; (with_reducible refine (QaH.calls k1  t113 _ A34.out).mono ?_); rintro e w38 ⟨rfl, hb⟩; have n0_ := Qad.mk (Kd.V_below (by (with_reducible repeat (first | apply Kd.Qa9 | apply Kd.Qa8 | apply Kd.V_drew)); exact HO_0.out) hb); have n1_ := Qad.mk (Kd.QaC (by (with_reducible repeat (first | apply Kd.Qam | apply Kd.Qan | apply Kd.Qao)); exact HO_7.out) hb); have n2_ := Qad.mk (Kd.QaC (by (with_reducible repeat (first | apply Kd.Qam | apply Kd.Qan | apply Kd.Qao)); exact HO_9.out) hb); have n3_ := Qad.mk (QaA (g := gb101) (o := ob_ss a2_0 a2_1 33) (by (with_reducible repeat (first | refine Qag ?_ _ | refine Qai ?_ | refine Qaf ?_ _)); exact BK101.out) hb); have n4_ := Qad.mk (Qal (by repeat (first | (with_reducible first | exact HB.out | apply Qac | apply Qaa | apply Qab | refine Qaj ?_ GE101.out) | exact HB.out)) hb); clear HO_0; clear HO_7; clear HO_9; clear BK101; clear HB; have HO_0 := n0_; have HO_7 := n1_; have HO_9 := n2_; have BK101 := n3_; have HB := n4_; clear n0_ n1_ n2_ n3_ n4_; (try clear hb); (try clear hb2); (try clear hk); (try clear hi))); try go_wp2_with (first | (go_at_call 17; (with_reducible refine (solve_Has.calls k1 _ _ t102 a1 a2_0 a2_1 t112 _ ?side1 ?side2 A31.out).mono ?_); (case side1 => repeat (first | exact (Kd.Qa3 HO_0.out).2.2 | (with_reducible refine Kd.QaQ ?_ _) | (with_reducible refine Kd.QaR ?_ _) | (with_reducible refine Kd.Qa7 ?_))); (case side2 => exact (Kd.Qa3 HO_0.out).2.1); rintro e w36 ⟨rfl, hb⟩; have n0_ := Qad.mk (Kd.V_below (by (with_reducible repeat (first | apply Kd.Qa9 | apply Kd.Qa8 | apply Kd.V_drew)); exact HO_0.out) hb); have n1_ := Qad.mk (Kd.QaC (by (with_reducible repeat (first | apply Kd.Qam | apply Kd.Qan | apply Kd.Qao)); exact HO_7.out) hb); have n2_ := Qad.mk (Kd.QaC (by (with_reducible repeat (first | apply Kd.Qam | apply Kd.Qan | apply Kd.Qao)); exact HO_9.out) hb); have n3_ := Qad.mk (QaA (g := gb101) (o := ob_ss a2_0 a2_1 33) (by (with_reducible repeat (first | refine Qag ?_ _ | refine Qai ?_ | refine Qaf ?_ _)); exact BK101.out) hb); have n4_ := Qad.mk (Qal (by repeat (first | (with_reducible first | exact HB.out | apply Qac | apply Qaa | apply Qab | refine Qaj ?_ GE101.out) | exact HB.out)) hb); clear HO_0; clear HO_7; clear HO_9; clear BK101; clear HB; have HO_0 := n0_; have HO_7 := n1_; have HO_9 := n2_; have BK101 := n3_; have HB := n4_; clear n0_ n1_ n2_ n3_ n4_; (try clear hb); (try clear hb2); (try clear hk); (try clear hi); obtain ⟨Ao37, co37, eo37⟩ := Kd.QaT HO_9.out; subst eo37) | (go_at_call 14; (with_reducible refine (QaH.calls k1  t113 _ A34.out).mono ?_); rintro e w38 ⟨rfl, hb⟩; have n0_ := Qad.mk (Kd.V_below (by (with_reducible repeat (first | apply Kd.Qa9 | apply Kd.Qa8 | apply Kd.V_drew)); exact HO_0.out) hb); have n1_ := Qad.mk (Kd.QaC (by (with_reducible repeat (first | apply Kd.Qam | apply Kd.Qan | apply Kd.Qao)); exact HO_7.out) hb); have n2_ := Qad.mk (Kd.QaC (by (with_reducible repeat (first | apply Kd.Qam | apply Kd.Qan | apply Kd.Qao)); exact HO_9.out) hb); have n3_ := Qad.mk (QaA (g := gb101) (o := ob_ss a2_0 a2_1 33) (by (with_reducible repeat (first | refine Qag ?_ _ | refine Qai ?_ | refine Qaf ?_ _)); exact BK101.out) hb); have n4_ := Qad.mk (Qal (by repeat (first | (with_reducible first | exact HB.out | apply Qac | apply Qaa | apply Qab | refine Qaj ?_ GE101.out) | exact HB.out)) hb); clear HO_0; clear HO_7; clear HO_9; clear BK101; clear HB; have HO_0 := n0_; have HO_7 := n1_; have HO_9 := n2_; have BK101 := n3_; have HB := n4_; clear n0_ n1_ n2_ n3_ n4_; (try clear hb); (try clear hb2); (try clear hk); (try clear hi))))
      go_ret; exact ⟨by first | rfl | (simp [Qau, Qat] <;> rfl) | (simp [*, Qau, Qat] <;> rfl), by repeat (first | (with_reducible first | exact HB.out | apply Qac | apply Qaa | apply Qab | refine Qaj ?_ GE101.out) | exact HB.out)⟩
     ·rw [if_neg c33] at H; have c33b0 : (x10_1 == (t109.length : Int)) = false := beq_eq_false_iff_ne.mpr c33; have c33b1 : (x10_1 != (t109.length : Int)) = true := bne_iff_ne.mpr c33; obtain rfl := Option.some.inj H; have hcz39_0 : wr.cell? ⟨gb101, 0, none⟩ = some (.string a2_0) := (Qak BK101.out 0).trans rfl; have hcz39_1 : wr.cell? ⟨gb101, 1, none⟩ = some (.string a2_1) := (Qak BK101.out 1).trans rfl; obtain ⟨hfz39_0, hfz39_1⟩ := fz_2 BK101.out
      go_wp2_with (first | (go_at_call 17; (with_reducible refine (solve_Has.calls k1 _ _ t102 a1 a2_0 a2_1 t112 _ ?side1 ?side2 A31.out).mono ?_); (case side1 => repeat (first | exact (Kd.Qa3 HO_0.out).2.2 | (with_reducible refine Kd.QaQ ?_ _) | (with_reducible refine Kd.QaR ?_ _) | (with_reducible refine Kd.Qa7 ?_))); (case side2 => exact (Kd.Qa3 HO_0.out).2.1); rintro e w40 ⟨rfl, hb⟩; have n0_ := Qad.mk (Kd.V_below (by (with_reducible repeat (first | apply Kd.Qa9 | apply Kd.Qa8 | apply Kd.V_drew)); exact HO_0.out) hb); have n1_ := Qad.mk (Kd.QaC (by (with_reducible repeat (first | apply Kd.Qam | apply Kd.Qan | apply Kd.Qao)); exact HO_7.out) hb); have n2_ := Qad.mk (Kd.QaC (by (with_reducible repeat (first | apply Kd.Qam | apply Kd.Qan | apply Kd.Qao)); exact HO_9.out) hb); have n3_ := Qad.mk (QaA (g := gb101) (o := ob_ss a2_0 a2_1 33) (by (with_reducible repeat (first | refine Qag ?_ _ | refine Qai ?_ | refine Qaf ?_ _)); exact BK101.out) hb); have n4_ := Qad.mk (Qal (by repeat (first | (with_reducible first | exact HB.out | apply Qac | apply Qaa | apply Qab | refine Qaj ?_ GE101.out) | exact HB.out)) hb); clear HO_0; clear HO_7; clear HO_9; clear BK101; clear HB; have HO_0 := n0_; have HO_7 := n1_; have HO_9 := n2_; have BK101 := n3_; have HB := n4_; clear n0_ n1_ n2_ n3_ n4_; (try clear hb); (try clear hb2); (try clear hk); (try clear hi); obtain ⟨Ao41, co41, eo41⟩ := Kd.QaT HO_9.out; subst eo41))
      repeat (go_quiet (first | (go_at_call 17; (with_reducible refine (solve_Has.calls k1 _ _ t102 a1 a2_0 a2_1 t112 _ ?side1 ?side2 A31.out).mono ?_); (case side1 => repeat (first | exact (Kd.Qa3 HO_0.out).2.2 | (with_reducible refine Kd.QaQ ?_ _) | (with_reducible refine Kd.QaR ?_ _) | (with_reducible refine Kd.Qa7 ?_))); (case side2 => exact (Kd.Qa3 HO_0.out).2.1); rintro e w40 ⟨rfl, hb⟩; have n0_ := Qad.mk (Kd.V_below (by (with_reducible repeat (first | apply Kd.Qa9 | apply Kd.Qa8 | apply Kd.V_drew)); exact HO_0.out) hb); have n1_ := Qad.mk (Kd.QaC (by (with_reducible repeat (first | apply Kd.Qam | apply Kd.Qan | apply Kd.Qao)); exact HO_7.out) hb); have n2_ := Qad.mk (Kd.QaC (by (with_reducible repeat (first | apply Kd.Qam | apply Kd.Qan | apply Kd.Qao)); exact HO_9.out) hb); have n3_ := Qad.mk (QaA (g := gb101) (o := ob_ss a2_0 a2_1 33) (by (with_reducible repeat (first | refine Qag ?_ _ | refine Qai ?_ | refine Qaf ?_ _)); exact BK101.out) hb); have n4_ := Qad.mk (Qal (by repeat (first | (with_reducible first | exact HB.out | apply Qac | apply Qaa | apply Qab | refine Qaj ?_ GE101.out) | exact HB.out)) hb); clear HO_0; clear HO_7; clear HO_9; clear BK101; clear HB; have HO_0 := n0_; have HO_7 := n1_; have HO_9 := n2_; have BK101 := n3_; have HB := n4_; clear n0_ n1_ n2_ n3_ n4_; (try clear hb); (try clear hb2); (try clear hk); (try clear hi); obtain ⟨Ao41, co41, eo41⟩ := Kd.QaT HO_9.out; subst eo41)); try go_wp2_with (first | (go_at_call 17; (with_reducible refine (solve_Has.calls k1 _ _ t102 a1 a2_0 a2_1 t112 _ ?side1 ?side2 A31.out).mono ?_); (case side1 => repeat (first | exact (Kd.Qa3 HO_0.out).2.2 | (with_reducible refine Kd.QaQ ?_ _) | (with_reducible refine Kd.QaR ?_ _) | (with_reducible refine Kd.Qa7 ?_))); (case side2 => exact (Kd.Qa3 HO_0.out).2.1); rintro e w40 ⟨rfl, hb⟩; have n0_ := Qad.mk (Kd.V_below (by (with_reducible repeat (first | apply Kd.Qa9 | apply Kd.Qa8 | apply Kd.V_drew)); exact HO_0.out) hb); have n1_ := Qad.mk (Kd.QaC (by (with_reducible repeat (first | apply Kd.Qam | apply Kd.Qan | apply Kd.Qao)); exact HO_7.out) hb); have n2_ := Qad.mk (Kd.QaC (by (with_reducible repeat (first | apply Kd.Qam | apply Kd.Qan | apply Kd.Qao)); exact HO_9.out) hb); have n3_ := Qad.mk (QaA (g := gb101) (o := ob_ss a2_0 a2_1 33) (by (with_reducible repeat (first | refine Qag ?_ _ | refine Qai ?_ | refine Qaf ?_ _)); exact BK101.out) hb); have n4_ := Qad.mk (Qal (by repeat (first | (with_reducible first | exact HB.out | apply Qac | apply Qaa | apply Qab | refine Qaj ?_ GE101.out) | exact HB.out)) hb); clear HO_0; clear HO_7; clear HO_9; clear BK101; clear HB; have HO_0 := n0_; have HO_7 := n1_; have HO_9 := n2_; have BK101 := n3_; have HB := n4_; clear n0_ n1_ n2_ n3_ n4_; (try clear hb); (try clear hb2); (try clear hk); (try clear hi); obtain ⟨Ao41, co41, eo41⟩ := Kd.QaT HO_9.out; subst eo41)))
      go_ret; exact ⟨by first | rfl | (simp [Qau, Qat] <;> rfl) | (simp [*, Qau, Qat] <;> rfl), by repeat (first | (with_reducible first | exact HB.out | apply Qac | apply Qaa | apply Qab | refine Qaj ?_ GE101.out) | exact HB.out)⟩
    ·rw [if_neg c32] at H
     have c32b0 : (t112 == t108) = false := by simpa using c32
     (try (have c32b1 : decide (t112 = t108) = false := by simpa using c32))
     (try (have c32b2 : (t112 == t108) = false := by simpa using c32))
     (try (have c32b3 : ¬ (t112 = t108) := by simpa using c32))
     clear c32; obtain rfl := Option.some.inj H; have hcz42_0 : wr.cell? ⟨gb101, 0, none⟩ = some (.string a2_0) := (Qak BK101.out 0).trans rfl; have hcz42_1 : wr.cell? ⟨gb101, 1, none⟩ = some (.string a2_1) := (Qak BK101.out 1).trans rfl; obtain ⟨hfz42_0, hfz42_1⟩ := fz_2 BK101.out
     go_wp2_with (first | (go_at_call 17; (with_reducible refine (solve_Has.calls k1 _ _ t102 a1 a2_0 a2_1 t112 _ ?side1 ?side2 A31.out).mono ?_); (case side1 => repeat (first | exact (Kd.Qa3 HO_0.out).2.2 | (with_reducible refine Kd.QaQ ?_ _) | (with_reducible refine Kd.QaR ?_ _) | (with_reducible refine Kd.Qa7 ?_))); (case side2 => exact (Kd.Qa3 HO_0.out).2.1); rintro e w43 ⟨rfl, hb⟩; have n0_ := Qad.mk (Kd.V_below (by (with_reducible repeat (first | apply Kd.Qa9 | apply Kd.Qa8 | apply Kd.V_drew)); exact HO_0.out) hb); have n1_ := Qad.mk (Kd.QaC (by (with_reducible repeat (first | apply Kd.Qam | apply Kd.Qan | apply Kd.Qao)); exact HO_7.out) hb); have n2_ := Qad.mk (Kd.QaC (by (with_reducible repeat (first | apply Kd.Qam | apply Kd.Qan | apply Kd.Qao)); exact HO_9.out) hb); have n3_ := Qad.mk (QaA (g := gb101) (o := ob_ss a2_0 a2_1 33) (by (with_reducible repeat (first | refine Qag ?_ _ | refine Qai ?_ | refine Qaf ?_ _)); exact BK101.out) hb); have n4_ := Qad.mk (Qal (by repeat (first | (with_reducible first | exact HB.out | apply Qac | apply Qaa | apply Qab | refine Qaj ?_ GE101.out) | exact HB.out)) hb); clear HO_0; clear HO_7; clear HO_9; clear BK101; clear HB; have HO_0 := n0_; have HO_7 := n1_; have HO_9 := n2_; have BK101 := n3_; have HB := n4_; clear n0_ n1_ n2_ n3_ n4_; (try clear hb); (try clear hb2); (try clear hk); (try clear hi)))
     repeat (go_quiet (first | (go_at_call 17; (with_reducible refine (solve_Has.calls k1 _ _ t102 a1 a2_0 a2_1 t112 _ ?side1 ?side2 A31.out).mono ?_); (case side1 => repeat (first | exact (Kd.Qa3 HO_0.out).2.2 | (with_reducible refine Kd.QaQ ?_ _) | (with_reducible refine Kd.QaR ?_ _) | (with_reducible refine Kd.Qa7 ?_))); (case side2 => exact (Kd.Qa3 HO_0.out).2.1); rintro e w43 ⟨rfl, hb⟩; have n0_ := Qad.mk (Kd.V_below (by (with_reducible repeat (first | apply Kd.Qa9 | apply Kd.Qa8 | apply Kd.V_drew)); exact HO_0.out) hb); have n1_ := Qad.mk (Kd.QaC (by (with_reducible repeat (first | apply Kd.Qam | apply Kd.Qan | apply Kd.Qao)); exact HO_7.out) hb); have n2_ := Qad.mk (Kd.QaC (by (with_reducible repeat (first | apply Kd.Qam | apply Kd.Qan | apply Kd.Qao)); exact HO_9.out) hb); have n3_ := Qad.mk (QaA (g := gb101) (o := ob_ss a2_0 a2_1 33) (by (with_reducible repeat (first | refine Qag ?_ _ | refine Qai ?_ | refine Qaf ?_ _)); exact BK101.out) hb); have n4_ := Qad.mk (Qal (by repeat (first | (with_reducible first | exact HB.out | apply Qac | apply Qaa | apply Qab | refine Qaj ?_ GE101.out) | exact HB.out)) hb); clear HO_0; clear HO_7; clear HO_9; clear BK101; clear HB; have HO_0 := n0_; have HO_7 := n1_; have HO_9 := n2_; have BK101 := n3_; have HB := n4_; clear n0_ n1_ n2_ n3_ n4_; (try clear hb); (try clear hb2); (try clear hk); (try clear hi))); try go_wp2_with (first | (go_at_call 17; (with_reducible refine (solve_Has.calls k1 _ _ t102 a1 a2_0 a2_1 t112 _ ?side1 ?side2 A31.out).mono ?_); (case side1 => repeat (first | exact (Kd.Qa3 HO_0.out).2.2 | (with_reducible refine Kd.QaQ ?_ _) | (with_reducible refine Kd.QaR ?_ _) | (with_reducible refine Kd.Qa7 ?_))); (case side2 => exact (Kd.Qa3 HO_0.out).2.1); rintro e w43 ⟨rfl, hb⟩; have n0_ := Qad.mk (Kd.V_below (by (with_reducible repeat (first | apply Kd.Qa9 | apply Kd.Qa8 | apply Kd.V_drew)); exact HO_0.out) hb); have n1_ := Qad.mk (Kd.QaC (by (with_reducible repeat (first | apply Kd.Qam | apply Kd.Qan | apply Kd.Qao)); exact HO_7.out) hb); have n2_ := Qad.mk (Kd.QaC (by (with_reducible repeat (first | apply Kd.Qam | apply Kd.Qan | apply Kd.Qao)); exact HO_9.out) hb); have n3_ := Qad.mk (QaA (g := gb101) (o := ob_ss a2_0 a2_1 33) (by (with_reducible repeat (first | refine Qag ?_ _ | refine Qai ?_ | refine Qaf ?_ _)); exact BK101.out) hb); have n4_ := Qad.mk (Qal (by repeat (first | (with_reducible first | exact HB.out | apply Qac | apply Qaa | apply Qab | refine Qaj ?_ GE101.out) | exact HB.out)) hb); clear HO_0; clear HO_7; clear HO_9; clear BK101; clear HB; have HO_0 := n0_; have HO_7 := n1_; have HO_9 := n2_; have BK101 := n3_; have HB := n4_; clear n0_ n1_ n2_ n3_ n4_; (try clear hb); (try clear hb2); (try clear hk); (try clear hi))))
     go_ret; exact ⟨by first | rfl | (simp [Qau, Qat] <;> rfl) | (simp [*, Qau, Qat] <;> rfl), by repeat (first | (with_reducible first | exact HB.out | apply Qac | apply Qaa | apply Qab | refine Qaj ?_ GE101.out) | exact HB.out)⟩
end Go.Proofs.YtpjddgmdgfjlfaaDoor.Pr
end
section
namespace Go.Proofs.YtpjddgmdgfjlfaaDoor.Pr
open Go.RowKit Go.Proofs.YtpjddgmdgfjlfaaDoorW.PrintWords Go.Proofs.YtpjddgmdgfjlfaaDoorW.PrintLast Go.Proofs.YtpjddgmdgfjlfaaDoorW.PrintMore
attribute [local go_sem] QaY QaW Qbb Qba QaP QaO QaX QaV
set_option linter.unusedVariables false
set_option linter.unusedSimpArgs false

end Go.Proofs.YtpjddgmdgfjlfaaDoor.Pr
end
section
namespace Go.Proofs.YtpjddgmdgfjlfaaDoor.Pr
open Go.RowKit Go.Proofs.YtpjddgmdgfjlfaaDoorW.PrintWords Go.Proofs.YtpjddgmdgfjlfaaDoorW.PrintLast Go.Proofs.YtpjddgmdgfjlfaaDoorW.PrintMore
attribute [local go_sem] QaY QaW Qbb Qba QaP QaO QaX QaV
set_option linter.unusedVariables false
set_option linter.unusedSimpArgs false
end Go.Proofs.YtpjddgmdgfjlfaaDoor.Pr
end
section
namespace Go.Proofs.YtpjddgmdgfjlfaaDoor.Pr
open Go.RowKit Go.Proofs.YtpjddgmdgfjlfaaDoorW.PrintWords Go.Proofs.YtpjddgmdgfjlfaaDoorW.PrintLast Go.Proofs.YtpjddgmdgfjlfaaDoorW.PrintMore
attribute [local go_sem] QaY QaW Qbb Qba QaP QaO QaX QaV
set_option linter.unusedVariables false
set_option linter.unusedSimpArgs false

end Go.Proofs.YtpjddgmdgfjlfaaDoor.Pr
end
section
namespace Go.Proofs.YtpjddgmdgfjlfaaDoor.Pr
open Go.RowKit Go.Proofs.YtpjddgmdgfjlfaaDoorW.PrintWords Go.Proofs.YtpjddgmdgfjlfaaDoorW.PrintLast Go.Proofs.YtpjddgmdgfjlfaaDoorW.PrintMore
attribute [local go_sem] QaY QaW Qbb Qba QaP QaO QaX QaV
set_option linter.unusedVariables false
set_option linter.unusedSimpArgs false

end Go.Proofs.YtpjddgmdgfjlfaaDoor.Pr
end
section
namespace Go.Proofs.YtpjddgmdgfjlfaaDoor.Pr
open Go.RowKit Go.Proofs.YtpjddgmdgfjlfaaDoorW.PrintWords Go.Proofs.YtpjddgmdgfjlfaaDoorW.PrintLast Go.Proofs.YtpjddgmdgfjlfaaDoorW.PrintMore
theorem few_is (l : List Cred) : Qa5.f l = some (l.take 14) := by
  unfold Qa5.f
  by_cases h : (l.length : Int) > 14
  · rw [if_pos h, if_pos (by omega)]
  · rw [if_neg h, List.take_of_length_le (by omega)]
theorem rdPair (l : List Pair) (i : Nat) : rd_T47 l (i : Int) = l[i]! := by
  unfold rd_T47; rw [Int.toNat_natCast, List.getElem!_eq_getElem?_getD, List.getD_eq_getElem?_getD]; rfl
def membersOf (A : List Pair) (r : Role) : List ByteArray := (A.filter fun p => decide (p.f0 = r)).map fun p => p.f1
theorem members_l0 (A : List Pair) (hA : A.length < 1000000) (r : Role) : ∀ (n i : Nat) (out : List ByteArray), n + i = A.length → out.length ≤ i → Ev (fun k => QaJ.l0 k out A (A.length : Int) (i : Int) r.f0 r.f1) (out ++ membersOf (A.drop i) r)
  | 0, i, out, hn, ho => by
    rw [show A.drop i = [] from List.drop_eq_nil_of_le (by omega)]; refine Ev.step (fun k => ?_) (Ev.pure _); rw [QaJ.l0, if_neg (by omega)]; simp [membersOf]
  | n + 1, i, out, hn, ho => by
    rw [drop_bang (by omega : i < A.length)]; unfold membersOf; rw [List.filter_cons]
    by_cases e : A[i]!.f0 = r
    · rw [decide_eq_true e, if_pos rfl, List.map_cons]
      have := members_l0 A hA r n (i + 1) (out ++ [A[i]!.f1]) (by omega) (by simp; omega); rw [List.append_assoc, List.singleton_append] at this; refine Ev.step (fun k => ?_) this; rw [QaJ.l0, if_pos (by omega), if_pos (by omega), if_pos (by omega), wrap_succ (by omega), rdPair, role_beq, decide_eq_true (p := A[i]!.f0 = ⟨r.f0, r.f1⟩) e, if_pos rfl, if_pos (by omega)]
    · rw [decide_eq_false e, if_neg (by decide)]
      refine Ev.step (fun k => ?_) (members_l0 A hA r n (i + 1) out (by omega) (by omega)); rw [QaJ.l0, if_pos (by omega), if_pos (by omega), if_pos (by omega), wrap_succ (by omega), rdPair, role_beq, decide_eq_false (p := A[i]!.f0 = ⟨r.f0, r.f1⟩) e, if_neg (by decide)]
theorem members_ev {l : List Cred} {A : List Pair} (h : Qa1.f l = some A) (hA : A.length < 1000000) (r : Role) : Ev (fun k => QaJ.f k l r.f0 r.f1) (membersOf A r) := by
  unfold QaJ.f; rw [h]; have := members_l0 A hA r A.length 0 [] (by omega) (by simp); rw [List.drop_zero, List.nil_append] at this; exact this
theorem pair_beq (p : Pair) (a b c : ByteArray) : ((a.toList == p.f0.f0.toList && (b.toList == p.f0.f1.toList)) && (c.toList == p.f1.toList)) = decide (p = ⟨⟨a, b⟩, c⟩) := by
  rw [beq_dec, beq_dec, beq_dec, Bool.eq_iff_iff, Bool.and_eq_true, Bool.and_eq_true, decide_eq_true_eq, decide_eq_true_eq, decide_eq_true_eq, decide_eq_true_eq]; exact ⟨fun h => pair_ext (role_ext h.1.1.symm h.1.2.symm) h.2.symm, fun h => by rw [h]; exact ⟨⟨rfl, rfl⟩, rfl⟩⟩
theorem index_l0 (A : List Pair) (hA : A.length < 1000000) (a b c : ByteArray) : ∀ (n i : Nat), n + i = A.length → ∃ v : Int, Ev (fun k => Qbc.l0 k A (A.length : Int) (i : Int) a b c) v ∧ (v ≥ 0 ↔ (⟨⟨a, b⟩, c⟩ : Pair) ∈ A.drop i)
  | 0, i, hn => by
    rw [show A.drop i = [] from List.drop_eq_nil_of_le (by omega)]; refine ⟨-1, Ev.step (fun k => ?_) (Ev.pure _), by simp⟩; rw [Qbc.l0, if_neg (by omega)]
  | n + 1, i, hn => by
    rw [drop_bang (by omega : i < A.length)]
    by_cases e : A[i]! = ⟨⟨a, b⟩, c⟩
    · refine ⟨(i : Int), Ev.step (fun k => ?_) (Ev.pure _), ⟨fun _ => by rw [e]; exact List.mem_cons_self .., fun _ => by omega⟩⟩
      rw [Qbc.l0, if_pos (by omega), if_pos (by omega), if_pos (by omega), rdPair, pair_beq, decide_eq_true e, if_pos rfl]
    · obtain ⟨v, h1, h2⟩ := index_l0 A hA a b c n (i + 1) (by omega)
      refine ⟨v, Ev.step (fun k => ?_) h1, h2.trans ⟨fun h => List.mem_cons_of_mem _ h, fun h => (List.mem_cons.mp h).resolve_left (fun h => e h.symm)⟩⟩; rw [Qbc.l0, if_pos (by omega), if_pos (by omega), if_pos (by omega), wrap_succ (by omega), rdPair, pair_beq, decide_eq_false e, if_neg (by decide)]
theorem has_ev {l : List Cred} {A : List Pair} (h : Qa1.f l = some A) (hA : A.length < 1000000) (who : ByteArray) (r : Role) : Ev (fun k => solve_Has.f k l who r.f0 r.f1) (decide ((⟨r, who⟩ : Pair) ∈ A)) := by
  unfold solve_Has.f solve_Pair_25.f; rw [h]; obtain ⟨v, h1, h2⟩ := index_l0 A hA r.f0 r.f1 who A.length 0 (by omega); rw [List.drop_zero] at h2; refine Ev.bind (a := decide ((⟨r, who⟩ : Pair) ∈ A)) (Ev.bind h1 ?_) (Ev.pure _)
  have e : decide (v ≥ 0) = decide ((⟨r, who⟩ : Pair) ∈ A) := by
    rw [Bool.eq_iff_iff, decide_eq_true_eq, decide_eq_true_eq]; exact h2
  rw [e]; exact Ev.pure _
def ex1 : Cred := ⟨⟨1, 1⟩, ⟨#[97]⟩, 3, ⟨#[]⟩, ⟨⟨#[]⟩, ⟨#[98]⟩⟩, ⟨⟨#[]⟩, ⟨#[99]⟩⟩⟩
def ex2 : Cred := ⟨⟨1, 2⟩, ⟨#[98]⟩, 1, ⟨#[100, 50]⟩, ⟨⟨#[]⟩, ⟨#[]⟩⟩, ⟨⟨#[]⟩, ⟨#[]⟩⟩⟩
def ex3 : Cred := ⟨⟨2, 1⟩, ⟨#[99]⟩, 1, ⟨#[98, 111, 98]⟩, ⟨⟨#[]⟩, ⟨#[]⟩⟩, ⟨⟨#[]⟩, ⟨#[]⟩⟩⟩
def exP1 : Pair := ⟨⟨⟨#[100, 49]⟩, ⟨#[97]⟩⟩, ⟨#[98, 111, 98]⟩⟩
def exP2 : Pair := ⟨⟨⟨#[100, 49]⟩, ⟨#[98]⟩⟩, ⟨#[100, 50]⟩⟩
def exP3 : Pair := ⟨⟨⟨#[100, 50]⟩, ⟨#[99]⟩⟩, ⟨#[98, 111, 98]⟩⟩
theorem noText_dec (s : ByteArray) : noText s = decide (s = ⟨#[]⟩) := by
  unfold noText; rw [Bool.eq_iff_iff, beq_iff_eq, empty_iff, decide_eq_true_eq]
theorem ex1_may : credMay ex1 = true := by
  unfold credMay roleOk bareOk noRole; simp only [noText_dec]
  decide
theorem ex2_may : credMay ex2 = true := by
  unfold credMay roleOk bareOk noRole; simp only [noText_dec]
  decide
theorem ex3_may : credMay ex3 = true := by
  unfold credMay roleOk bareOk noRole; simp only [noText_dec]
  decide
def exs : List Cred := [ex1, ex2, ex3]
theorem exs_counts (c : Cred) : c ∈ counts exs ↔ c = ex1 ∨ c = ex2 ∨ c = ex3 := by
  rw [(counts_spec exs).mem]; constructor
  · intro h
    have := h.mem
    simpa [exs] using this
  · rintro (rfl | rfl | rfl)
    · unfold First exs
      rw [List.find?_cons, ex1_may, show sameID ex1 ex1 = true by decide]; rfl
    · unfold First exs
      rw [List.find?_cons, show sameID ex1 ex2 = false by decide, Bool.and_false, List.find?_cons, ex2_may, show sameID ex2 ex2 = true by decide]; rfl
    · unfold First exs
      rw [List.find?_cons, show sameID ex1 ex3 = false by decide, Bool.and_false, List.find?_cons, show sameID ex2 ex3 = false by decide, Bool.and_false, List.find?_cons, ex3_may, show sameID ex3 ex3 = true by decide]; rfl
theorem exs_all : AllOf (counts exs) [exP1, exP2, exP3] where
  sorted := by
    have h12 : pairLess exP1 exP2 = true := by
      unfold pairLess roleLess; simp only [ByteArray.toList_eq]
      decide
    have h13 : pairLess exP1 exP3 = true := by
      unfold pairLess roleLess; simp only [ByteArray.toList_eq]
      decide
    have h23 : pairLess exP2 exP3 = true := by
      unfold pairLess roleLess; simp only [ByteArray.toList_eq]
      decide
    simp [h12, h13, h23]
  mem p := by
    have m1 : ex1 ∈ counts exs := (exs_counts _).mpr (.inl rfl); have m2 : ex2 ∈ counts exs := (exs_counts _).mpr (.inr (.inl rfl)); have m3 : ex3 ∈ counts exs := (exs_counts _).mpr (.inr (.inr rfl)); have s2 : Said (counts exs) exP2 := Said.member m2 rfl; have s3 : Said (counts exs) exP3 := Said.member m3 rfl; have s1 : Said (counts exs) exP1 := Said.link (c := ex1) (u := ⟨#[100, 50]⟩) m1 rfl s2 (by decide) s3; constructor
    · intro h
      simp only [List.mem_cons, List.not_mem_nil, or_false] at h
      rcases h with rfl | rfl | rfl
      · exact s1
      · exact s2
      · exact s3
    · intro h
      induction h with
      | @member c hc k =>
        rcases (exs_counts c).mp hc with rfl | rfl | rfl
        · exact absurd k (by decide)
        · exact .tail _ (.head _)
        · exact .tail _ (.tail _ (.head _))
      | @incl c u hc k _ ih =>
        rcases (exs_counts c).mp hc with rfl | rfl | rfl
        · exact absurd k (by decide)
        · exact absurd k (by decide)
        · exact absurd k (by decide)
      | @link c u v hc k _ n _ ih1 ih2 =>
        rcases (exs_counts c).mp hc with rfl | rfl | rfl
        · have hu : u = ⟨#[100, 50]⟩ := by
            simp only [List.mem_cons, List.not_mem_nil, or_false] at ih1
            rcases ih1 with e | e | e
            · exact absurd (congrArg S47.f0 e) (show ¬ linkFirst ex1 = exP1.f0 by decide)
            · exact congrArg S47.f1 e
            · exact absurd (congrArg S47.f0 e) (show ¬ linkFirst ex1 = exP3.f0 by decide)
          have hv : v = ⟨#[98, 111, 98]⟩ := by
            rw [hu] at ih2; simp only [List.mem_cons, List.not_mem_nil, or_false] at ih2
            rcases ih2 with e | e | e
            · exact absurd (congrArg S47.f0 e) (show ¬ (⟨⟨#[100, 50]⟩, ex1.f5.f1⟩ : Role) = exP1.f0 by decide)
            · exact absurd (congrArg S47.f0 e) (show ¬ (⟨⟨#[100, 50]⟩, ex1.f5.f1⟩ : Role) = exP2.f0 by decide)
            · exact congrArg S47.f1 e
          rw [hv]; exact .head _
        · exact absurd k (by decide)
        · exact absurd k (by decide)
      | @both c u hc k _ _ ih1 ih2 =>
        rcases (exs_counts c).mp hc with rfl | rfl | rfl
        · exact absurd k (by decide)
        · exact absurd k (by decide)
        · exact absurd k (by decide)
theorem exs_ok : ∀ c ∈ exs, okCred c := by
  intro c hc
  have : c = ex1 ∨ c = ex2 ∨ c = ex3 := by simpa [exs] using hc
  rcases this with rfl | rfl | rfl <;> exact ⟨by decide, by decide, ⟨by decide, by decide⟩, by decide, by decide⟩
theorem exs_is : Qa1.f exs = some [exP1, exP2, exP3] := by
  obtain ⟨A, h1, h2⟩ := all_is exs (by decide) exs_ok; rw [h1, h2.unique exs_all]
theorem lives_ev : Ev (fun k => QaH.f k) true := by
  unfold QaH.f
  show Ev (fun k => (QaJ.f k exs ⟨#[100, 49]⟩ ⟨#[97]⟩).bind _) true
  refine Ev.bind (members_ev exs_is (by decide) ⟨⟨#[100, 49]⟩, ⟨#[97]⟩⟩) ?_; rw [show membersOf [exP1, exP2, exP3] ⟨⟨#[100, 49]⟩, ⟨#[97]⟩⟩ = [⟨#[98, 111, 98]⟩] by decide]
  have e1 : (rdOf ByteArray.empty [(⟨#[98, 111, 98]⟩ : ByteArray)] 0).toList = [98, 111, 98] := by
    rw [ByteArray.toList_eq]; rfl
  simp only [e1, List.length_cons, List.length_nil]; refine Ev.bind (a := true) ?_ ?_
  · have := has_ev exs_is (by decide) ⟨#[98, 111, 98]⟩ ⟨⟨#[100, 50]⟩, ⟨#[99]⟩⟩
    rw [show decide ((⟨⟨⟨#[100, 50]⟩, ⟨#[99]⟩⟩, ⟨#[98, 111, 98]⟩⟩ : Pair) ∈ [exP1, exP2, exP3]) = true by decide] at this; exact this
  · simp only [if_true]
    refine Ev.bind (a := false) ?_ ?_
    · have := has_ev exs_is (by decide) ⟨#[97, 110, 110]⟩ ⟨⟨#[100, 50]⟩, ⟨#[99]⟩⟩
      rw [show decide ((⟨⟨⟨#[100, 50]⟩, ⟨#[99]⟩⟩, ⟨#[97, 110, 110]⟩⟩ : Pair) ∈ [exP1, exP2, exP3]) = false by decide] at this; exact this
    · show Ev (fun _ => (Qa1.f exs).bind _) true
      rw [exs_is]; exact Ev.pure _
theorem take_len (l : List Cred) : (l.take 14).length ≤ 14 := by simp; omega
theorem take_ok {l : List Cred} (h : ∀ c ∈ l, okCred c) : ∀ c ∈ l.take 14, okCred c := fun c hc => h c (List.mem_of_mem_take hc)
theorem solveHas_l0 (l : List Cred) (who : ByteArray) (r : Role) (A : List Pair) (hA : A.length < 1000000) (h : Qa1.f l = some A) : ∀ (n i j : Nat), n + i = A.length → j ≤ (membersOf A r).length → (membersOf A r).drop j = membersOf (A.drop i) r → Ev (fun k => Qa6.l0 k l who (A.map toR) (decide ((⟨r, who⟩ : Pair) ∈ A)) (membersOf A r) (j : Int) (i : Int) r.f0 r.f1) true
  | 0, i, j, hn, hj, hd => by
    rw [show A.drop i = [] from List.drop_eq_nil_of_le (by omega)] at hd
    have hj2 : j = (membersOf A r).length := by
      have := congrArg List.length hd; rw [List.length_drop] at this; simp [membersOf] at this ⊢; simp [membersOf] at hj; omega
    refine Ev.step (g := fun k => (solve_Has.f k l who r.f0 r.f1).bind fun t => if (t == decide ((⟨r, who⟩ : Pair) ∈ A)) = true then (if (j : Int) = ((membersOf A r).length : Int) then ((QaH.f k).bind fun t => some t) else some false) else some false) (fun k => ?_) (Ev.bind (has_ev h hA who r) ?_)
    · rw [Qa6.l0, if_neg (by rw [List.length_map]; omega)]
    · simp only [beq_self_eq_true, if_true, if_pos (show (j : Int) = ((membersOf A r).length : Int) by omega)]
      exact Ev.bind lives_ev (Ev.pure _)
  | n + 1, i, j, hn, hj, hd => by
    have hi : i < A.length := by omega
    have hr : Qav (A.map toR) (i : Int) = toR A[i]! := by
      rw [rdR, getBang (by rw [List.length_map]; exact hi), getBang hi, List.getElem_map]
    have hml : (membersOf A r).length ≤ A.length := by
      unfold membersOf; rw [List.length_map]; exact List.length_filter_le _ _
    rw [drop_bang hi] at hd; unfold membersOf at hd; rw [List.filter_cons] at hd
    by_cases e : A[i]!.f0 = r
    · rw [decide_eq_true e, if_pos rfl, List.map_cons] at hd
      have hjl : j < (membersOf A r).length := by
        have := congrArg List.length hd; rw [List.length_drop, List.length_cons] at this
        show j < ((A.filter fun p => decide (p.f0 = r)).map fun p => p.f1).length
        omega
      have hd' : (membersOf A r).drop j = A[i]!.f1 :: membersOf (A.drop (i + 1)) r := hd; rw [drop_bang hjl] at hd'; obtain ⟨h1, h2⟩ := List.cons.inj hd'; refine Ev.step (fun k => ?_) (solveHas_l0 l who r A hA h n (i + 1) (j + 1) (by omega) (by omega) h2)
      have hm : rdOf ByteArray.empty (membersOf A r) (j : Int) = A[i]!.f1 := by
        rw [← h1]; unfold rdOf; rw [Int.toNat_natCast, List.getD_eq_getElem?_getD, List.getElem?_eq_getElem hjl, Option.getD_some, getBang hjl]
      rw [Qa6.l0, if_pos (by rw [List.length_map]; omega), if_pos (by omega), hr, hm, wrap_succ (by omega), wrap_succ (by omega)]; rw [show ((toR A[i]!).f0.f0.toList == r.f0.toList && ((toR A[i]!).f0.f1.toList == r.f1.toList)) = true from (role_beq (toR A[i]!).f0 r.f0 r.f1).trans (decide_eq_true e), if_pos rfl, if_neg (by omega), if_pos (by omega), if_pos (by omega)]; exact if_pos rfl
    · rw [decide_eq_false e, if_neg (by decide)] at hd
      refine Ev.step (fun k => ?_) (solveHas_l0 l who r A hA h n (i + 1) j (by omega) hj hd); rw [Qa6.l0, if_pos (by rw [List.length_map]; omega), if_pos (by omega), hr, wrap_succ (by omega : i < _)]; rw [show ((toR A[i]!).f0.f0.toList == r.f0.toList && ((toR A[i]!).f0.f1.toList == r.f1.toList)) = false from (role_beq (toR A[i]!).f0 r.f0 r.f1).trans (decide_eq_false e), if_neg (by decide)]
theorem solveHas_true (l : List Cred) (who : ByteArray) (r : Role) (hok : ∀ c ∈ l, okCred c) : Ev (fun k => Qa6.f k l who r.f0 r.f1) true := by
  unfold Qa6.f; rw [few_is]; have hlen := take_len l; obtain ⟨A, h1, h2⟩ := all_is (l.take 14) (by omega) (take_ok hok); have hc := counts_length (l.take 14); have hA := h2.length (by omega); simp only [Option.bind_some]; refine Ev.bind (refAll_is _ (by omega) h2) (Ev.bind (in_ev (A.map toR) (by rw [List.length_map]; omega) r.f0 r.f1 who) (Ev.bind (members_ev h1 (by omega) r) ?_))
  have e : decide ((⟨⟨r.f0, r.f1⟩, who⟩ : RPair) ∈ A.map toR) = decide ((⟨r, who⟩ : Pair) ∈ A) := by
    rw [Bool.eq_iff_iff, decide_eq_true_eq, decide_eq_true_eq, List.mem_map]; constructor
    · rintro ⟨p, hp, e⟩
      have : p = ⟨r, who⟩ := pair_ext (congrArg S36.f0 e) (congrArg S36.f1 e); rw [← this]; exact hp
    · intro h
      exact ⟨_, h, rfl⟩
  rw [e]; exact solveHas_l0 (l.take 14) who r A (by omega) h1 A.length 0 0 (by omega) (by omega) rfl
end Go.Proofs.YtpjddgmdgfjlfaaDoor.Pr
end
section
namespace Go.Proofs.YtpjddgmdgfjlfaaDoor.Pr
open Go.RowKit Go.Proofs.YtpjddgmdgfjlfaaDoorW.PrintWords Go.Proofs.YtpjddgmdgfjlfaaDoorW.PrintLast Go.Proofs.YtpjddgmdgfjlfaaDoorW.PrintMore
def within (cs : List Cred) (base : List RPair) (x : RPair) : Prop := (∃ c ∈ cs, x.f0 = credRole c) ∧ x.f1 ∈ cs.map (fun c => c.f3) ++ base.map (fun p => p.f1)
end Go.Proofs.YtpjddgmdgfjlfaaDoor.Pr
end
