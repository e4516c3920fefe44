/- The law's own part of the proof. No conditions. -/
import Derived.Shelf.SlicesG.Cmp
import Derived.WalkKit
import Derived.WalkSpells
import Derived.Lib.Hide
import Derived.StillTailTactics
import Derived.Sort.Grow
import Derived.KernelRfl
import Derived.Lib.SlicesS
import Derived.Shelf.SlicesE.Clone
import Derived.Ground.SlgcProg
import Derived.Test.YtmaipohgahdclaaDoorProg
import Derived.Shelf.SlSortCmp.WholeK
import Derived.Shelf.SlSortCmp.NoneTotal
import Derived.Ground.SlsfProg
import Derived.Ground.SlgnProg
import Derived.Laws.StructEq
import Derived.Below
import Derived.Deep.Draws
import Derived.Deep.AppendLies
import Derived.Maps.AppendAt
import Derived.OwnWalk
import Derived.Laws.BytesArg
import Derived.Laws.MakeOwn
import Derived.Laws.OwnMore
import Derived.Tactics
import Derived.Lib.ConvBytes
import Derived.Laws.Slices
import Derived.RowKit3
import Derived.Deep.LoopGhost
import Derived.Deep.QuietTactic
import Derived.BigQuiet
import Derived.WideLaws
import Derived.Deep.DeepCutAuto
import Derived.Deep.CutBlock
import Derived.Deep.RegionHeld3
import Derived.Lib.AppendStr
import Derived.ArgAppend
import Derived.Laws.IdiomCopy
import Derived.RowKit
import Derived.Sort.Walk0
import Derived.Laws.Strings
import Derived.Maps.OwnSet
import Derived.Maps.RangeRun
import Derived.Maps.Range
import Derived.Carry
import Derived.ProofKit
import Derived.OpenShut
import Derived.ShutString
import Derived.ChangeOld
import Derived.SizedLaws
import Derived.LaidMore
import Derived.Stop.Joined
import Derived.SevenTiedAt
import Derived.OrdersHeld
import Derived.Laws.BitsLemmas
import Derived.Sort.LotA
import Derived.DeepKeys4
import Derived.ChangeSlices
import Derived.DataElems
import Derived.WalkLawsBesides
import Derived.Outline
import Derived.Deep.RegionWith
import Derived.RegionTactic
import Derived.ChangeAlike
import Derived.Deep.RegionLaw
import Derived.Lib.SmallJoins
import Derived.Laws.RangeAny
import Derived.Laws.Closers25
import Derived.Shelf.GgSortFunc.InsertionK
import Derived.Test.YtmaipohgahdclaaDoorPa0
import Derived.Test.YtmaipohgahdclaaDoorPa1
import Derived.Test.YtmaipohgahdclaaDoorPa2
import Derived.Test.YtmaipohgahdclaaDoorPa3
import Derived.Test.YtmaipohgahdclaaDoorPa4
import Derived.Test.YtmaipohgahdclaaDoorPa5
import Derived.Test.YtmaipohgahdclaaDoorPa6
import Derived.Test.YtmaipohgahdclaaDoorPa7
import Derived.Test.YtmaipohgahdclaaDoorPa8
import Derived.Test.YtmaipohgahdclaaDoorPa9
import Derived.Test.YtmaipohgahdclaaDoorPa10
import Derived.Test.YtmaipohgahdclaaDoorPa11
import Derived.Test.YtmaipohgahdclaaDoorPa12
section
namespace Go.Proofs.YtmaipohgahdclaaDoor.Pr
open Go.RowKit Go.Proofs.YtmaipohgahdclaaDoorW.PrintWords Go.Proofs.YtmaipohgahdclaaDoorW.PrintLast Go.Proofs.YtmaipohgahdclaaDoorW.PrintMore
attribute [local go_sem] max2_int min2_int max_two min_two Qbj Qbi max_four min_four
set_option linter.unusedVariables false
set_option linter.unusedSimpArgs false
def QaP.j0 : Nat → Int → Bool → ByteArray → ByteArray → ByteArray → Int → Int → List (S29) → ByteArray → ByteArray → ByteArray → Int → Int → List (S29) → Option (Bool)
 | 0, _, _, _, _, _, _, _, _, _, _, _, _, _, _ => none
 | k + 1, x2, x19, x102000, x102001, x102002, x102003, x102004, x102005, x103000, x103001, x103002, x103003, x103004, x103005 => if x19 = true then ((Qao.f k).bind fun t105 => (some t105)) else ((QaQ.f x102000 x102001 x102002 x102003 x102004 x102005).bind fun t106 => ((liveryref07_Support.f k x102000 x102001 x102002 x102003 x102004 x102005).bind fun t109 => ((QaY.f k t106 t109).bind fun t112 => (if t112 = true then ((Qbl.f k x102000 x102001 x102002 x102003 x102004 x102005).bind fun t113 => ((liveryref07_Size.f k x102000 x102001 x102002 x102003 x102004 x102005).bind fun t114 => (if t113 = t114 then ((Qa7.f x102000 x102001 x102002 x102003 x102004 x102005 x103000 x103001 x103002 x103003 x103004 x103005).bind fun t115 => ((QaC.f k x102000 x102001 x102002 x102003 x102004 x102005 x103000 x103001 x103002 x103003 x103004 x103005).bind fun t116 => (if (t115 == t116) = true then ((Qa7.f x102000 x102001 x102002 x102003 x102004 x102005 x102000 x102001 x102002 x102003 x102004 x102005).bind fun t117 => (if t117 = true then ((QaR.f k x102000 x102001 x102002 x102003 x102004 x102005 x2).bind fun t118 => ((Qa3.f k x102000 x102001 x102002 x102003 x102004 x102005).bind fun t119 => (if (t118 == (decide (x2 ≥ t119))) = true then ((Qao.f k).bind fun t120 => (some t120)) else (none)))) else (none))) else (none)))) else (none)))) else (none)))))
def QaP.f (k : Nat) (a0_0 : ByteArray) (a0_1 : ByteArray) (a0_2 : ByteArray) (a0_3 : Int) (a0_4 : Int) (l0_5 : List (S29)) (a1_0 : ByteArray) (a1_1 : ByteArray) (a1_2 : ByteArray) (a1_3 : Int) (a1_4 : Int) (l1_5 : List (S29)) (a2 : Int) : Option (Bool) := (QaE.f k a0_0 a0_1 a0_2 a0_3 a0_4 l0_5).bind fun t103 => ((QaE.f k a1_0 a1_1 a1_2 a1_3 a1_4 l1_5).bind fun t104 => (if t103 = true then (QaP.j0 k a2 (!t104) a0_0 a0_1 a0_2 a0_3 a0_4 l0_5 a1_0 a1_1 a1_2 a1_3 a1_4 l1_5) else (QaP.j0 k a2 true a0_0 a0_1 a0_2 a0_3 a0_4 l0_5 a1_0 a1_1 a1_2 a1_3 a1_4 l1_5)))
def QaP.T6 : Bool × List (List Nat × List Nat) := (true, [([], []), ([0], [0]), ([1], [1]), ([2, 1, 1], [1, 2]), ([1], [1]), ([4, 3, 1], [1, 4]), ([3, 5, 1], [1, 3, 5]), ([1, 6], [1, 6]), ([7, 5], [7]), ([8], [8]), ([8], [8]), ([9, 10, 8, 8], [8, 9, 10]), ([8], [8]), ([8], [8]), ([12, 13, 11, 8], [8, 12, 13]), ([11, 14, 8], [8, 11, 14]), ([8, 15], [8, 15]), ([16, 14], [16]), ([17], [17]), ([17], [17]), ([18, 19, 17, 17], [17, 18, 19]), ([17, 20], [17, 20]), ([21, 20], [21]), ([22], [22]), ([22], [22]), ([23, 24, 22, 22], [22, 23, 24]), ([22], [22]), ([22], [22]), ([27, 25, 22], [22, 27]), ([26, 28, 22], [22, 26, 28]), ([25, 29, 22], [22, 25, 29]), ([22, 30], [22, 30]), ([31, 28], [31]), ([32, 32], [32]), ([32, 33], [32, 33]), ([34, 33, 0, 1, 2, 3, 4, 5, 6, 7, 8, 9, 10, 11, 12, 13, 14, 15, 16, 17, 18, 19, 20, 21, 22, 23, 24, 25, 26, 27, 28, 29, 30, 31, 32, 33, 34], [34])])
def QaP.B6 : List Nat := [0, 1, 3, 7, 3, 31, 63, 127, 255, 511, 511, 2047, 511, 511, 16383, 32767, 65535, 131071, 262143, 262143, 1048575, 2097151, 4194303, 8388607, 8388607, 33554431, 8388607, 8388607, 201326591, 536870911, 1073741823, 2147483647, 4294967295, 8589934591, 17179869183, 34359738367]
theorem QaP.tab6 : rtab .any (opsOf Tryd.f4 6) = QaP.T6 := by kernel_rfl
theorem QaP.bits6 : waitsOk QaP.T6.2 QaP.B6 = true := by kernel_rfl
set_option maxHeartbeats 8000000 in
set_option maxRecDepth 100000 in
theorem QaP.calls (k : Nat) (a0_0 : ByteArray) (a0_1 : ByteArray) (a0_2 : ByteArray) (a0_3 : Int) (a0_4 : Int) (A0_5 : Option Addr) (c0_5 : Nat) (l0_5 : List (S29)) (a1_0 : ByteArray) (a1_1 : ByteArray) (a1_2 : ByteArray) (a1_3 : Int) (a1_4 : Int) (A1_5 : Option Addr) (c1_5 : Nat) (l1_5 : List (S29)) (a2 : Int) (r : Bool) (w : World) (hr0_5 : Kd.C k29 w A0_5 l0_5.length l0_5) (hc0_5 : l0_5.length ≤ c0_5) (hr1_5 : Kd.C k29 w A1_5 l1_5.length l1_5) (hc1_5 : l1_5.length ≤ c1_5) (h : QaP.f k a0_0 a0_1 a0_2 a0_3 a0_4 l0_5 a1_0 a1_1 a1_2 a1_3 a1_4 l1_5 a2 = some r) :
  Calls Tryd.prog 4 #[.agg #[.string a0_0, .string a0_1, .string a0_2, .int .i64 a0_3, .int .i64 a0_4, .slice A0_5 l0_5.length c0_5], .agg #[.string a1_0, .string a1_1, .string a1_2, .int .i64 a1_3, .int .i64 a1_4, .slice A1_5 l1_5.length c1_5], .int .i64 a2] w fun e w' => e = .returned (.bool r) ∧ Below w.heap.size w w' := by
 have hu29 := Tryd.underlying29; have HR0_5 := Qab.mk hr0_5; have HC0_5 := Qab.mk hc0_5; clear hr0_5 hc0_5; have HR1_5 := Qab.mk hr1_5; have HC1_5 := Qab.mk hc1_5; clear hr1_5 hc1_5; have HB := Qab.mk (Below.refl w.heap.size w); have H : ((QaE.f k a0_0 a0_1 a0_2 a0_3 a0_4 l0_5).bind fun t103 => ((QaE.f k a1_0 a1_1 a1_2 a1_3 a1_4 l1_5).bind fun t104 => (if t103 = true then (QaP.j0 k a2 (!t104) a0_0 a0_1 a0_2 a0_3 a0_4 l0_5 a1_0 a1_1 a1_2 a1_3 a1_4 l1_5) else (QaP.j0 k a2 true a0_0 a0_1 a0_2 a0_3 a0_4 l0_5 a1_0 a1_1 a1_2 a1_3 a1_4 l1_5)))) = some r := h; clear h; replace H := Option.bind_eq_some_iff.mp H; obtain ⟨t103, A40, H⟩ := H; replace H : ((QaE.f k a1_0 a1_1 a1_2 a1_3 a1_4 l1_5).bind fun t104 => (if t103 = true then (QaP.j0 k a2 (!t104) a0_0 a0_1 a0_2 a0_3 a0_4 l0_5 a1_0 a1_1 a1_2 a1_3 a1_4 l1_5) else (QaP.j0 k a2 true a0_0 a0_1 a0_2 a0_3 a0_4 l0_5 a1_0 a1_1 a1_2 a1_3 a1_4 l1_5))) = some r := H; have A4 := Qab.mk A40; clear A40; replace H := Option.bind_eq_some_iff.mp H; obtain ⟨t104, A50, H⟩ := H; replace H : (if t103 = true then (QaP.j0 k a2 (!t104) a0_0 a0_1 a0_2 a0_3 a0_4 l0_5 a1_0 a1_1 a1_2 a1_3 a1_4 l1_5) else (QaP.j0 k a2 true a0_0 a0_1 a0_2 a0_3 a0_4 l0_5 a1_0 a1_1 a1_2 a1_3 a1_4 l1_5)) = some r := H; have A5 := Qab.mk A50; clear A50; have HC6 := Qab.mk H; clear H; go_enter Tryd.func4, Tryd.ntmps4
 go_upto_region 3 with (first | ((with_reducible refine Qa2 (N := 3) rfl ?_); refine QaV ?hg (N := 3) ?hd (cs := #[.string a0_0, .string a0_1, .string a0_2, .int .i64 a0_3, .int .i64 a0_4, .slice A0_5 l0_5.length c0_5]) (t := 29) ?hr ?_; (case hd => rfl); (case hg => rfl); (case hr => first | (go_simp; done) | (go_simp; rfl)); intro gb101 hg w7 hbox hb; have n0_ := Qab.mk (Qak (by repeat (first | (with_reducible first | exact HB.out | apply Qad | apply Qaa | apply Qac) | exact HB.out)) hb); have n1_ := Qab.mk (hbox); have n2_ := Qab.mk ((by rw [hg]; exact (Qar (by repeat (first | (with_reducible first | exact HB.out | apply Qad | apply Qaa | apply Qac) | exact HB.out))) : w.heap.size ≤ gb101)); have n3_ := n2_; clear HB; have HB := n0_; have BK101 := n1_; have GW101 := n2_; have GE101 := n3_; clear n0_ n1_ n2_ n3_; clear hb hbox hg) | ((with_reducible refine Qa2 (N := 4) rfl ?_); refine QaV ?hg (N := 4) ?hd (cs := #[.string a1_0, .string a1_1, .string a1_2, .int .i64 a1_3, .int .i64 a1_4, .slice A1_5 l1_5.length c1_5]) (t := 29) ?hr ?_; (case hd => rfl); (case hg => rfl); (case hr => first | (go_simp; done) | (go_simp; rfl)); intro gb102 hg w8 hbox hb; have n0_ := Qab.mk (Qal (g := gb101) (o := Qap a0_0 a0_1 a0_2 a0_3 a0_4 (.slice A0_5 l0_5.length c0_5) 29) (by (with_reducible repeat (first | refine Qag ?_ _ | refine Qai ?_ | refine Qae ?_ _)); exact BK101.out) hb); have n1_ := Qab.mk (Qak (by repeat (first | (with_reducible first | exact HB.out | apply Qad | apply Qaa | apply Qac | refine Qah ?_ GE101.out) | exact HB.out)) hb); have n2_ := Qab.mk (hbox); have n3_ := Qab.mk ((by rw [hg]; exact (Qar (by repeat (first | (with_reducible first | exact HB.out | apply Qad | apply Qaa | apply Qac | refine Qah ?_ GE101.out) | exact HB.out))) : w.heap.size ≤ gb102)); have n4_ := n3_; have n5_ := Qab.mk ((by rw [hg]; exact Nat.ne_of_lt (blk_lt (g := gb101) (o := Qap a0_0 a0_1 a0_2 a0_3 a0_4 (.slice A0_5 l0_5.length c0_5) 29) (by (with_reducible repeat (first | refine Qag ?_ _ | refine Qai ?_ | refine Qae ?_ _)); exact BK101.out)) : gb101 ≠ gb102)); have n6_ := Qab.mk ((by rw [hg]; exact Nat.ne_of_gt (blk_lt (g := gb101) (o := Qap a0_0 a0_1 a0_2 a0_3 a0_4 (.slice A0_5 l0_5.length c0_5) 29) (by (with_reducible repeat (first | refine Qag ?_ _ | refine Qai ?_ | refine Qae ?_ _)); exact BK101.out)) : gb102 ≠ gb101)); clear BK101; clear HB; have BK101 := n0_; have HB := n1_; have BK102 := n2_; have GW102 := n3_; have GE102 := n4_; have NB101_102 := n5_; have NB102_101 := n6_; clear n0_ n1_ n2_ n3_ n4_ n5_ n6_; clear hb hbox hg; have hnb9 := NB101_102.out; have hnc9 := NB102_101.out; obtain ⟨hcz10_0, hcz10_1, hcz10_2, hcz10_3, hcz10_4, hcz10_5⟩ := QaZ BK101.out; obtain ⟨hfz10_0, hfz10_1, hfz10_2, hfz10_3, hfz10_4, hfz10_5⟩ := fz_6 BK101.out) | ((with_reducible refine QaT (f := 9) rfl ?_); refine goesL_ (some 11) rfl rfl Tryd.func9 (by kernel_rfl) rfl #[.agg #[.string a0_0, .string a0_1, .string a0_2, .int .i64 a0_3, .int .i64 a0_4, .slice A0_5 l0_5.length c0_5]] rfl (by (try simp only [List.map_toArray, List.map_cons, List.map_nil]); first | done | rfl | (simp only [List.length_drop, List.length_take]; rfl)) ?_; (with_reducible refine (QaE.calls k a0_0 a0_1 a0_2 a0_3 a0_4 _ _ l0_5 t103 _ ?side1 ?side2 A4.out).mono ?_); (case side1 => repeat (first | exact (Kd.QaJ HR0_5.out HB.out) | (with_reducible refine Kd.QaF ?_ _) | (with_reducible refine Kd.QaH ?_ _) | (with_reducible refine Kd.QaW ?_))); (case side2 => exact HC0_5.out); rintro e w11 ⟨rfl, hb⟩; refine ⟨_, rfl, ?_⟩; have n0_ := Qab.mk (Qal (g := gb101) (o := Qap a0_0 a0_1 a0_2 a0_3 a0_4 (.slice A0_5 l0_5.length c0_5) 29) (by (with_reducible repeat (first | refine Qag ?_ _ | refine Qai ?_ | refine Qae ?_ _)); exact BK101.out) hb); have n1_ := Qab.mk (Qal (g := gb102) (o := Qap a1_0 a1_1 a1_2 a1_3 a1_4 (.slice A1_5 l1_5.length c1_5) 29) (by (with_reducible repeat (first | refine Qag ?_ _ | refine Qai ?_ | refine Qae ?_ _)); exact BK102.out) hb); have n2_ := Qab.mk (Qak (by repeat (first | (with_reducible first | exact HB.out | apply Qad | apply Qaa | apply Qac | refine Qah ?_ GE101.out | refine Qah ?_ GE102.out) | exact HB.out)) hb); clear BK101; clear BK102; clear HB; have BK101 := n0_; have BK102 := n1_; have HB := n2_; clear n0_ n1_ n2_; (try clear hb); (try clear hb2); (try clear hk); (try clear hi); obtain ⟨hcz12_0, hcz12_1, hcz12_2, hcz12_3, hcz12_4, hcz12_5⟩ := QaZ BK102.out; obtain ⟨hfz12_0, hfz12_1, hfz12_2, hfz12_3, hfz12_4, hfz12_5⟩ := fz_6 BK102.out) | ((with_reducible refine QaT (f := 9) rfl ?_); refine goesL_ (some 13) rfl rfl Tryd.func9 (by kernel_rfl) rfl #[.agg #[.string a1_0, .string a1_1, .string a1_2, .int .i64 a1_3, .int .i64 a1_4, .slice A1_5 l1_5.length c1_5]] rfl (by (try simp only [List.map_toArray, List.map_cons, List.map_nil]); first | done | rfl | (simp only [List.length_drop, List.length_take]; rfl)) ?_; (with_reducible refine (QaE.calls k a1_0 a1_1 a1_2 a1_3 a1_4 _ _ l1_5 t104 _ ?side1 ?side2 A5.out).mono ?_); (case side1 => repeat (first | exact (Kd.QaJ HR1_5.out HB.out) | (with_reducible refine Kd.QaF ?_ _) | (with_reducible refine Kd.QaH ?_ _) | (with_reducible refine Kd.QaW ?_))); (case side2 => exact HC1_5.out); rintro e w13 ⟨rfl, hb⟩; refine ⟨_, rfl, ?_⟩; have n0_ := Qab.mk (Qal (g := gb101) (o := Qap a0_0 a0_1 a0_2 a0_3 a0_4 (.slice A0_5 l0_5.length c0_5) 29) (by (with_reducible repeat (first | refine Qag ?_ _ | refine Qai ?_ | refine Qae ?_ _)); exact BK101.out) hb); have n1_ := Qab.mk (Qal (g := gb102) (o := Qap a1_0 a1_1 a1_2 a1_3 a1_4 (.slice A1_5 l1_5.length c1_5) 29) (by (with_reducible repeat (first | refine Qag ?_ _ | refine Qai ?_ | refine Qae ?_ _)); exact BK102.out) hb); have n2_ := Qab.mk (Qak (by repeat (first | (with_reducible first | exact HB.out | apply Qad | apply Qaa | apply Qac | refine Qah ?_ GE101.out | refine Qah ?_ GE102.out) | exact HB.out)) hb); clear BK101; clear BK102; clear HB; have BK101 := n0_; have BK102 := n1_; have HB := n2_; clear n0_ n1_ n2_; (try clear hb); (try clear hb2); (try clear hk); (try clear hi)))
 (try simp only [Act.put, put_])
 go_cut [19] (fun v19 wc => ∃ (kq : Nat) (x19_5 : Bool), v19 = .bool x19_5 ∧ Qab (QaP.j0 kq a2 x19_5 a0_0 a0_1 a0_2 a0_3 a0_4 l0_5 a1_0 a1_1 a1_2 a1_3 a1_4 l1_5 = some r) ∧ Qab (kq ≤ k) ∧ Qab (wc.heap[gb101]? = some (.cells #[.string a0_0, .string a0_1, .string a0_2, .int .i64 a0_3, .int .i64 a0_4, (.slice A0_5 l0_5.length c0_5)] 29 (0, 0))) ∧ Qab (wc.heap[gb102]? = some (.cells #[.string a1_0, .string a1_1, .string a1_2, .int .i64 a1_3, .int .i64 a1_4, (.slice A1_5 l1_5.length c1_5)] 29 (0, 0))) ∧ Qab (Below w.heap.size w wc))
 case first =>
  have H := HC6.out; clear HC6
  by_cases c14 : t103 = true
  ·subst c14
   have H1 : (QaP.j0 k a2 (!t104) a0_0 a0_1 a0_2 a0_3 a0_4 l0_5 a1_0 a1_1 a1_2 a1_3 a1_4 l1_5) = some r := by rw [if_pos rfl] at H; exact H
   clear H; have H := H1; clear H1; have H' := Qab.mk H; clear H; go_wp2
   go_meet
   case rel => exact ⟨_, (!t104), (by first | rfl | (simp; done) | (simp [*]; done)), H', ⟨by first | omega | exact Nat.le_refl _⟩, ⟨by (with_reducible repeat (first | refine Qag ?_ _ | refine Qai ?_ | refine Qae ?_ _)); exact BK101.out⟩, ⟨by (with_reducible repeat (first | refine Qag ?_ _ | refine Qai ?_ | refine Qae ?_ _)); exact BK102.out⟩, ⟨by repeat (first | (with_reducible first | exact HB.out | apply Qad | apply Qaa | apply Qac | refine Qah ?_ GE101.out | refine Qah ?_ GE102.out) | exact HB.out)⟩⟩
  ·replace c14 := Bool.eq_false_iff.mpr c14; subst c14
   have H1 : (QaP.j0 k a2 true a0_0 a0_1 a0_2 a0_3 a0_4 l0_5 a1_0 a1_1 a1_2 a1_3 a1_4 l1_5) = some r := by rw [if_neg (show ¬ (false = true) by decide)] at H; exact H
   clear H; have H := H1; clear H1; have H' := Qab.mk H; clear H; go_wp2
   go_meet
   case rel => exact ⟨_, (true), (by first | rfl | (simp; done) | (simp [*]; done)), H', ⟨by first | omega | exact Nat.le_refl _⟩, ⟨by (with_reducible repeat (first | refine Qag ?_ _ | refine Qai ?_ | refine Qae ?_ _)); exact BK101.out⟩, ⟨by (with_reducible repeat (first | refine Qag ?_ _ | refine Qai ?_ | refine Qae ?_ _)); exact BK102.out⟩, ⟨by repeat (first | (with_reducible first | exact HB.out | apply Qad | apply Qaa | apply Qac | refine Qah ?_ GE101.out | refine Qah ?_ GE102.out) | exact HB.out)⟩⟩
 case rest =>
  clear HC6; (try clear c1); (try clear p2); (try clear c4); (try clear c9); (try clear c14); (try clear hcz10_0); (try clear hcz10_1); (try clear hcz10_2); (try clear hcz10_3); (try clear hcz10_4); (try clear hcz10_5); (try clear hcz12_0); (try clear hcz12_1); (try clear hcz12_2); (try clear hcz12_3); (try clear hcz12_4); (try clear hcz12_5); (try clear hfz10_0); (try clear hfz10_1); (try clear hfz10_2); (try clear hfz10_3); (try clear hfz10_4); (try clear hfz10_5); (try clear hfz12_0); (try clear hfz12_1); (try clear hfz12_2); (try clear hfz12_3); (try clear hfz12_4); (try clear hfz12_5); obtain ⟨kq, x19_5, rfl, HA, HJ5, BK101, BK102, HB⟩ := hcut
  cases kq with
  | zero => exact absurd HA.out (by simp [QaP.j0])
  | succ kj5 =>
   have H := HA.out; clear HA; simp only [QaP.j0] at H
   by_cases c15 : x19_5 = true
   ·subst c15
    have H1 : ((Qao.f kj5).bind fun t105 => (some t105)) = some r := by rw [if_pos rfl] at H; exact H
    clear H; have H := H1; clear H1; replace H := Option.bind_eq_some_iff.mp H; obtain ⟨t105, A160, H⟩ := H; replace H : (some t105) = some r := H; have A16 := Qab.mk A160; clear A160; obtain rfl := Option.some.inj H
    go_wp2_with (first | ((with_reducible refine QaT (f := 10) rfl ?_); refine goesL_ (some 20) rfl rfl Tryd.func10 (by kernel_rfl) rfl #[] rfl (by (try simp only [List.map_toArray, List.map_cons, List.map_nil]); first | done | rfl | (simp only [List.length_drop, List.length_take]; rfl)) ?_; (with_reducible refine (Qao.calls kj5  t105 _ A16.out).mono ?_); rintro e w17 ⟨rfl, hb⟩; refine ⟨_, rfl, ?_⟩; have n0_ := Qab.mk (Qal (g := gb101) (o := Qap a0_0 a0_1 a0_2 a0_3 a0_4 (.slice A0_5 l0_5.length c0_5) 29) (by (with_reducible repeat (first | refine Qag ?_ _ | refine Qai ?_ | refine Qae ?_ _)); exact BK101.out) hb); have n1_ := Qab.mk (Qal (g := gb102) (o := Qap a1_0 a1_1 a1_2 a1_3 a1_4 (.slice A1_5 l1_5.length c1_5) 29) (by (with_reducible repeat (first | refine Qag ?_ _ | refine Qai ?_ | refine Qae ?_ _)); exact BK102.out) hb); have n2_ := Qab.mk (Qak (by repeat (first | (with_reducible first | exact HB.out | apply Qad | apply Qaa | apply Qac | refine Qah ?_ GE101.out | refine Qah ?_ GE102.out) | exact HB.out)) hb); clear BK101; clear BK102; clear HB; have BK101 := n0_; have BK102 := n1_; have HB := n2_; clear n0_ n1_ n2_; (try clear hb); (try clear hb2); (try clear hk); (try clear hi)))
    go_ret; exact ⟨by first | rfl | (simp [Qax, Qaw] <;> rfl) | (simp [*, Qax, Qaw] <;> rfl), by repeat (first | (with_reducible first | exact HB.out | apply Qad | apply Qaa | apply Qac | refine Qah ?_ GE101.out | refine Qah ?_ GE102.out) | exact HB.out)⟩
   ·replace c15 := Bool.eq_false_iff.mpr c15; subst c15
    have H1 : ((QaQ.f a0_0 a0_1 a0_2 a0_3 a0_4 l0_5).bind fun t106 => ((liveryref07_Support.f kj5 a0_0 a0_1 a0_2 a0_3 a0_4 l0_5).bind fun t109 => ((QaY.f kj5 t106 t109).bind fun t112 => (if t112 = true then ((Qbl.f kj5 a0_0 a0_1 a0_2 a0_3 a0_4 l0_5).bind fun t113 => ((liveryref07_Size.f kj5 a0_0 a0_1 a0_2 a0_3 a0_4 l0_5).bind fun t114 => (if t113 = t114 then ((Qa7.f a0_0 a0_1 a0_2 a0_3 a0_4 l0_5 a1_0 a1_1 a1_2 a1_3 a1_4 l1_5).bind fun t115 => ((QaC.f kj5 a0_0 a0_1 a0_2 a0_3 a0_4 l0_5 a1_0 a1_1 a1_2 a1_3 a1_4 l1_5).bind fun t116 => (if (t115 == t116) = true then ((Qa7.f a0_0 a0_1 a0_2 a0_3 a0_4 l0_5 a0_0 a0_1 a0_2 a0_3 a0_4 l0_5).bind fun t117 => (if t117 = true then ((QaR.f kj5 a0_0 a0_1 a0_2 a0_3 a0_4 l0_5 a2).bind fun t118 => ((Qa3.f kj5 a0_0 a0_1 a0_2 a0_3 a0_4 l0_5).bind fun t119 => (if (t118 == (decide (a2 ≥ t119))) = true then ((Qao.f kj5).bind fun t120 => (some t120)) else (none)))) else (none))) else (none)))) else (none)))) else (none))))) = some r := by rw [if_neg (show ¬ (false = true) by decide)] at H; exact H
    clear H; have H := H1; clear H1; replace H := Option.bind_eq_some_iff.mp H; obtain ⟨t106, A180, H⟩ := H; replace H : ((liveryref07_Support.f kj5 a0_0 a0_1 a0_2 a0_3 a0_4 l0_5).bind fun t109 => ((QaY.f kj5 t106 t109).bind fun t112 => (if t112 = true then ((Qbl.f kj5 a0_0 a0_1 a0_2 a0_3 a0_4 l0_5).bind fun t113 => ((liveryref07_Size.f kj5 a0_0 a0_1 a0_2 a0_3 a0_4 l0_5).bind fun t114 => (if t113 = t114 then ((Qa7.f a0_0 a0_1 a0_2 a0_3 a0_4 l0_5 a1_0 a1_1 a1_2 a1_3 a1_4 l1_5).bind fun t115 => ((QaC.f kj5 a0_0 a0_1 a0_2 a0_3 a0_4 l0_5 a1_0 a1_1 a1_2 a1_3 a1_4 l1_5).bind fun t116 => (if (t115 == t116) = true then ((Qa7.f a0_0 a0_1 a0_2 a0_3 a0_4 l0_5 a0_0 a0_1 a0_2 a0_3 a0_4 l0_5).bind fun t117 => (if t117 = true then ((QaR.f kj5 a0_0 a0_1 a0_2 a0_3 a0_4 l0_5 a2).bind fun t118 => ((Qa3.f kj5 a0_0 a0_1 a0_2 a0_3 a0_4 l0_5).bind fun t119 => (if (t118 == (decide (a2 ≥ t119))) = true then ((Qao.f kj5).bind fun t120 => (some t120)) else (none)))) else (none))) else (none)))) else (none)))) else (none)))) = some r := H; have A18 := Qab.mk A180; clear A180; replace H := Option.bind_eq_some_iff.mp H; obtain ⟨t109, A190, H⟩ := H; replace H : ((QaY.f kj5 t106 t109).bind fun t112 => (if t112 = true then ((Qbl.f kj5 a0_0 a0_1 a0_2 a0_3 a0_4 l0_5).bind fun t113 => ((liveryref07_Size.f kj5 a0_0 a0_1 a0_2 a0_3 a0_4 l0_5).bind fun t114 => (if t113 = t114 then ((Qa7.f a0_0 a0_1 a0_2 a0_3 a0_4 l0_5 a1_0 a1_1 a1_2 a1_3 a1_4 l1_5).bind fun t115 => ((QaC.f kj5 a0_0 a0_1 a0_2 a0_3 a0_4 l0_5 a1_0 a1_1 a1_2 a1_3 a1_4 l1_5).bind fun t116 => (if (t115 == t116) = true then ((Qa7.f a0_0 a0_1 a0_2 a0_3 a0_4 l0_5 a0_0 a0_1 a0_2 a0_3 a0_4 l0_5).bind fun t117 => (if t117 = true then ((QaR.f kj5 a0_0 a0_1 a0_2 a0_3 a0_4 l0_5 a2).bind fun t118 => ((Qa3.f kj5 a0_0 a0_1 a0_2 a0_3 a0_4 l0_5).bind fun t119 => (if (t118 == (decide (a2 ≥ t119))) = true then ((Qao.f kj5).bind fun t120 => (some t120)) else (none)))) else (none))) else (none)))) else (none)))) else (none))) = some r := H
    have A19 := Qab.mk A190; clear A190; replace H := Option.bind_eq_some_iff.mp H; obtain ⟨t112, A200, H⟩ := H; replace H : (if t112 = true then ((Qbl.f kj5 a0_0 a0_1 a0_2 a0_3 a0_4 l0_5).bind fun t113 => ((liveryref07_Size.f kj5 a0_0 a0_1 a0_2 a0_3 a0_4 l0_5).bind fun t114 => (if t113 = t114 then ((Qa7.f a0_0 a0_1 a0_2 a0_3 a0_4 l0_5 a1_0 a1_1 a1_2 a1_3 a1_4 l1_5).bind fun t115 => ((QaC.f kj5 a0_0 a0_1 a0_2 a0_3 a0_4 l0_5 a1_0 a1_1 a1_2 a1_3 a1_4 l1_5).bind fun t116 => (if (t115 == t116) = true then ((Qa7.f a0_0 a0_1 a0_2 a0_3 a0_4 l0_5 a0_0 a0_1 a0_2 a0_3 a0_4 l0_5).bind fun t117 => (if t117 = true then ((QaR.f kj5 a0_0 a0_1 a0_2 a0_3 a0_4 l0_5 a2).bind fun t118 => ((Qa3.f kj5 a0_0 a0_1 a0_2 a0_3 a0_4 l0_5).bind fun t119 => (if (t118 == (decide (a2 ≥ t119))) = true then ((Qao.f kj5).bind fun t120 => (some t120)) else (none)))) else (none))) else (none)))) else (none)))) else (none)) = some r := H; have A20 := Qab.mk A200; clear A200
    by_cases c21 : t112 = true
    ·subst c21
     have H1 : ((Qbl.f kj5 a0_0 a0_1 a0_2 a0_3 a0_4 l0_5).bind fun t113 => ((liveryref07_Size.f kj5 a0_0 a0_1 a0_2 a0_3 a0_4 l0_5).bind fun t114 => (if t113 = t114 then ((Qa7.f a0_0 a0_1 a0_2 a0_3 a0_4 l0_5 a1_0 a1_1 a1_2 a1_3 a1_4 l1_5).bind fun t115 => ((QaC.f kj5 a0_0 a0_1 a0_2 a0_3 a0_4 l0_5 a1_0 a1_1 a1_2 a1_3 a1_4 l1_5).bind fun t116 => (if (t115 == t116) = true then ((Qa7.f a0_0 a0_1 a0_2 a0_3 a0_4 l0_5 a0_0 a0_1 a0_2 a0_3 a0_4 l0_5).bind fun t117 => (if t117 = true then ((QaR.f kj5 a0_0 a0_1 a0_2 a0_3 a0_4 l0_5 a2).bind fun t118 => ((Qa3.f kj5 a0_0 a0_1 a0_2 a0_3 a0_4 l0_5).bind fun t119 => (if (t118 == (decide (a2 ≥ t119))) = true then ((Qao.f kj5).bind fun t120 => (some t120)) else (none)))) else (none))) else (none)))) else (none)))) = some r := by rw [if_pos rfl] at H; exact H
     clear H; have H := H1; clear H1; replace H := Option.bind_eq_some_iff.mp H; obtain ⟨t113, A220, H⟩ := H; replace H : ((liveryref07_Size.f kj5 a0_0 a0_1 a0_2 a0_3 a0_4 l0_5).bind fun t114 => (if t113 = t114 then ((Qa7.f a0_0 a0_1 a0_2 a0_3 a0_4 l0_5 a1_0 a1_1 a1_2 a1_3 a1_4 l1_5).bind fun t115 => ((QaC.f kj5 a0_0 a0_1 a0_2 a0_3 a0_4 l0_5 a1_0 a1_1 a1_2 a1_3 a1_4 l1_5).bind fun t116 => (if (t115 == t116) = true then ((Qa7.f a0_0 a0_1 a0_2 a0_3 a0_4 l0_5 a0_0 a0_1 a0_2 a0_3 a0_4 l0_5).bind fun t117 => (if t117 = true then ((QaR.f kj5 a0_0 a0_1 a0_2 a0_3 a0_4 l0_5 a2).bind fun t118 => ((Qa3.f kj5 a0_0 a0_1 a0_2 a0_3 a0_4 l0_5).bind fun t119 => (if (t118 == (decide (a2 ≥ t119))) = true then ((Qao.f kj5).bind fun t120 => (some t120)) else (none)))) else (none))) else (none)))) else (none))) = some r := H; have A22 := Qab.mk A220; clear A220; replace H := Option.bind_eq_some_iff.mp H; obtain ⟨t114, A230, H⟩ := H; replace H : (if t113 = t114 then ((Qa7.f a0_0 a0_1 a0_2 a0_3 a0_4 l0_5 a1_0 a1_1 a1_2 a1_3 a1_4 l1_5).bind fun t115 => ((QaC.f kj5 a0_0 a0_1 a0_2 a0_3 a0_4 l0_5 a1_0 a1_1 a1_2 a1_3 a1_4 l1_5).bind fun t116 => (if (t115 == t116) = true then ((Qa7.f a0_0 a0_1 a0_2 a0_3 a0_4 l0_5 a0_0 a0_1 a0_2 a0_3 a0_4 l0_5).bind fun t117 => (if t117 = true then ((QaR.f kj5 a0_0 a0_1 a0_2 a0_3 a0_4 l0_5 a2).bind fun t118 => ((Qa3.f kj5 a0_0 a0_1 a0_2 a0_3 a0_4 l0_5).bind fun t119 => (if (t118 == (decide (a2 ≥ t119))) = true then ((Qao.f kj5).bind fun t120 => (some t120)) else (none)))) else (none))) else (none)))) else (none)) = some r := H
     have A23 := Qab.mk A230; clear A230
     by_cases c24 : t113 = t114
     ·rw [if_pos c24] at H; have c24b0 : (t113 == t114) = true := beq_iff_eq.mpr c24; have c24b1 : (t113 != t114) = false := bne_eq_false_iff_eq.mpr c24; clear c24; replace H := Option.bind_eq_some_iff.mp H; obtain ⟨t115, A250, H⟩ := H; replace H : ((QaC.f kj5 a0_0 a0_1 a0_2 a0_3 a0_4 l0_5 a1_0 a1_1 a1_2 a1_3 a1_4 l1_5).bind fun t116 => (if (t115 == t116) = true then ((Qa7.f a0_0 a0_1 a0_2 a0_3 a0_4 l0_5 a0_0 a0_1 a0_2 a0_3 a0_4 l0_5).bind fun t117 => (if t117 = true then ((QaR.f kj5 a0_0 a0_1 a0_2 a0_3 a0_4 l0_5 a2).bind fun t118 => ((Qa3.f kj5 a0_0 a0_1 a0_2 a0_3 a0_4 l0_5).bind fun t119 => (if (t118 == (decide (a2 ≥ t119))) = true then ((Qao.f kj5).bind fun t120 => (some t120)) else (none)))) else (none))) else (none))) = some r := H; have A25 := Qab.mk A250; clear A250; replace H := Option.bind_eq_some_iff.mp H; obtain ⟨t116, A260, H⟩ := H; replace H : (if (t115 == t116) = true then ((Qa7.f a0_0 a0_1 a0_2 a0_3 a0_4 l0_5 a0_0 a0_1 a0_2 a0_3 a0_4 l0_5).bind fun t117 => (if t117 = true then ((QaR.f kj5 a0_0 a0_1 a0_2 a0_3 a0_4 l0_5 a2).bind fun t118 => ((Qa3.f kj5 a0_0 a0_1 a0_2 a0_3 a0_4 l0_5).bind fun t119 => (if (t118 == (decide (a2 ≥ t119))) = true then ((Qao.f kj5).bind fun t120 => (some t120)) else (none)))) else (none))) else (none)) = some r := H; have A26 := Qab.mk A260; clear A260
      by_cases c27 : (t115 == t116) = true
      ·rw [if_pos c27] at H; have c27b0 : (t115 == t116) = true := c27
       (try (have c27b1 : decide (t115 = t116) = true := by simpa using c27))
       (try (have c27b2 : (t115 == t116) = true := by simpa using c27))
       clear c27; replace H := Option.bind_eq_some_iff.mp H; obtain ⟨t117, A280, H⟩ := H; replace H : (if t117 = true then ((QaR.f kj5 a0_0 a0_1 a0_2 a0_3 a0_4 l0_5 a2).bind fun t118 => ((Qa3.f kj5 a0_0 a0_1 a0_2 a0_3 a0_4 l0_5).bind fun t119 => (if (t118 == (decide (a2 ≥ t119))) = true then ((Qao.f kj5).bind fun t120 => (some t120)) else (none)))) else (none)) = some r := H; have A28 := Qab.mk A280; clear A280
       by_cases c29 : t117 = true
       ·subst c29
        have H1 : ((QaR.f kj5 a0_0 a0_1 a0_2 a0_3 a0_4 l0_5 a2).bind fun t118 => ((Qa3.f kj5 a0_0 a0_1 a0_2 a0_3 a0_4 l0_5).bind fun t119 => (if (t118 == (decide (a2 ≥ t119))) = true then ((Qao.f kj5).bind fun t120 => (some t120)) else (none)))) = some r := by rw [if_pos rfl] at H; exact H
        clear H; have H := H1; clear H1; replace H := Option.bind_eq_some_iff.mp H; obtain ⟨t118, A300, H⟩ := H; replace H : ((Qa3.f kj5 a0_0 a0_1 a0_2 a0_3 a0_4 l0_5).bind fun t119 => (if (t118 == (decide (a2 ≥ t119))) = true then ((Qao.f kj5).bind fun t120 => (some t120)) else (none))) = some r := H; have A30 := Qab.mk A300; clear A300; replace H := Option.bind_eq_some_iff.mp H; obtain ⟨t119, A310, H⟩ := H; replace H : (if (t118 == (decide (a2 ≥ t119))) = true then ((Qao.f kj5).bind fun t120 => (some t120)) else (none)) = some r := H; have A31 := Qab.mk A310; clear A310
        by_cases c32 : (t118 == (decide (a2 ≥ t119))) = true
        ·rw [if_pos c32] at H; have c32b0 : (t118 == (decide (a2 ≥ t119))) = true := c32
         (try (have c32b1 : decide (t118 = (decide (a2 ≥ t119))) = true := by simpa using c32))
         (try (have c32b2 : (t118 == (decide (a2 ≥ t119))) = true := by simpa using c32))
         clear c32; replace H := Option.bind_eq_some_iff.mp H; obtain ⟨t120, A330, H⟩ := H; replace H : (some t120) = some r := H; have A33 := Qab.mk A330; clear A330; obtain rfl := Option.some.inj H
         try go_wp2
         have n0_ := Qab.mk (Qai BK101.out); have n1_ := Qab.mk (Qai BK102.out); have n2_ := Qab.mk (Qac HB.out); clear BK101; clear BK102; clear HB; have BK101 := n0_; have BK102 := n1_; have HB := n2_; clear n0_ n1_ n2_; refine start_ (n := 6) (S := fun w' => w'.cell? ⟨gb101, 0, none⟩ = some (.string a0_0) ∧ w'.cell? ⟨gb101, 1, none⟩ = some (.string a0_1) ∧ w'.cell? ⟨gb101, 2, none⟩ = some (.string a0_2) ∧ w'.cell? ⟨gb101, 3, none⟩ = some (.int .i64 a0_3) ∧ w'.cell? ⟨gb101, 4, none⟩ = some (.int .i64 a0_4) ∧ w'.cell? ⟨gb101, 5, none⟩ = some (.slice A0_5 l0_5.length c0_5)) (ds := []) #[ff,ff,ff,ff,ff,ff] (by kernel_rfl) rfl rfl ⟨(Qaj BK101.out 0).trans rfl, (Qaj BK101.out 1).trans rfl, (Qaj BK101.out 2).trans rfl, (Qaj BK101.out 3).trans rfl, (Qaj BK101.out 4).trans rfl, (Qaj BK101.out 5).trans rfl⟩ (fun hHeld => ?_)
         generalize wc.drew = w34 at BK101 BK102 HB hHeld ⊢
         refine take_ (i := 0) (N := some 21) (v := ?_) (a' := ?_) #[tt,ff,ff,ff,ff,ff] rfl rfl (by kernel_rfl) (fun _ _ _ h => h) (Or.inl ⟨by rfl, ?_⟩) hHeld ?_ ?_; rotate_left
         ·rintro w' ⟨s0, s1, s2, s3, s4, s5⟩; go_simp; (with_reducible rfl)
         rotate_left
         ·simp only [Act.put, put_, QaG, QaI]; rfl
         refine take_ (i := 2) (N := some 23) (v := ?_) (a' := ?_) #[tt,ff,tt,ff,ff,ff] rfl rfl (by kernel_rfl) (fun _ _ _ h => h) (Or.inl ⟨by rfl, ?_⟩) hHeld ?_ ?_; rotate_left
         ·rintro w' ⟨s0, s1, s2, s3, s4, s5⟩; go_simp; (with_reducible rfl)
         rotate_left
         ·simp only [Act.put, put_, QaG, QaI]; rfl
         refine one_ (i := 1) (N := some 22) #[tt,tt,tt,ff,ff,ff] rfl rfl (by kernel_rfl) (by decide) (fun K hK => ?_); refine goes_ Tryd.func14 (by kernel_rfl) rfl #[.agg #[.string a0_0, .string a0_1, .string a0_2, .int .i64 a0_3, .int .i64 a0_4, .slice A0_5 l0_5.length c0_5]] (by rfl) rfl rfl (by (try simp only [List.map_toArray, List.map_cons, List.map_nil]); first | done | rfl | (simp only [List.length_drop, List.length_take]; rfl)) ?_
         with_reducible refine (QaQ.calls a0_0 a0_1 a0_2 a0_3 a0_4 _ _ l0_5 t106 _ ?side1 ?side2 A18.out).mono ?_
         (case side1 => repeat (first | exact (Kd.QaJ HR0_5.out HB.out) | (with_reducible refine Kd.QaF ?_ _) | (with_reducible refine Kd.QaH ?_ _) | (with_reducible refine Kd.QaW ?_)))
         (case side2 => exact HC0_5.out)
         rintro e w35 ⟨v107, rfl, ho0, hb⟩; refine ⟨_, rfl, ?_⟩; have n0_ := Qab.mk (Kd.R_lower ho0 (Qar (by repeat (first | (with_reducible first | exact HB.out | apply Qad | apply Qaa | apply Qac | refine Qah ?_ GE101.out | refine Qah ?_ GE102.out) | exact HB.out)))); have n1_ := Qab.mk (Qal (g := gb101) (o := Qap a0_0 a0_1 a0_2 a0_3 a0_4 (.slice A0_5 l0_5.length c0_5) 29) (by (with_reducible repeat (first | refine Qag ?_ _ | refine Qai ?_ | refine Qae ?_ _)); exact BK101.out) hb); have n2_ := Qab.mk (Qal (g := gb102) (o := Qap a1_0 a1_1 a1_2 a1_3 a1_4 (.slice A1_5 l1_5.length c1_5) 29) (by (with_reducible repeat (first | refine Qag ?_ _ | refine Qai ?_ | refine Qae ?_ _)); exact BK102.out) hb); have n3_ := Qab.mk (Qak (by repeat (first | (with_reducible first | exact HB.out | apply Qad | apply Qaa | apply Qac | refine Qah ?_ GE101.out | refine Qah ?_ GE102.out) | exact HB.out)) hb); clear BK101; clear BK102; clear HB; have HO108 := n0_; have BK101 := n1_; have BK102 := n2_; have HB := n3_; clear n0_ n1_ n2_ n3_
         (try clear hb)
         (try clear hb2)
         (try clear hk)
         (try clear hi)
         (try clear ho0)
         refine hK.out _ _ ⟨(Qaj BK101.out 0).trans rfl, (Qaj BK101.out 1).trans rfl, (Qaj BK101.out 2).trans rfl, (Qaj BK101.out 3).trans rfl, (Qaj BK101.out 4).trans rfl, (Qaj BK101.out 5).trans rfl⟩ (fun hHeld => ?_); clear hK K; refine norm_ (a' := ?_) ?_ ?_; rotate_left
         ·show Act.put _ (some 22) _ = _
          simp only [Act.put, put_, QaG, QaI]; rfl
         refine one_ (i := 3) (N := some 24) #[tt,tt,tt,tt,ff,ff] rfl rfl (by kernel_rfl) (by decide) (fun K hK => ?_); refine goes_ Tryd.func15 (by kernel_rfl) rfl #[.agg #[.string a0_0, .string a0_1, .string a0_2, .int .i64 a0_3, .int .i64 a0_4, .slice A0_5 l0_5.length c0_5]] (by rfl) rfl rfl (by (try simp only [List.map_toArray, List.map_cons, List.map_nil]); first | done | rfl | (simp only [List.length_drop, List.length_take]; rfl)) ?_
         with_reducible refine (liveryref07_Support.calls kj5 a0_0 a0_1 a0_2 a0_3 a0_4 _ _ l0_5 t109 _ ?side1 ?side2 A19.out).mono ?_
         (case side1 => repeat (first | exact (Kd.QaJ HR0_5.out HB.out) | (with_reducible refine Kd.QaF ?_ _) | (with_reducible refine Kd.QaH ?_ _) | (with_reducible refine Kd.QaW ?_)))
         (case side2 => exact HC0_5.out)
         rintro e w36 ⟨v110, rfl, ho0, hb⟩; refine ⟨_, rfl, ?_⟩; have n0_ := Qab.mk (Kd.R_elder' (by (with_reducible repeat (first | apply Kd.Qam | apply Kd.Qan | apply Kd.Qaq)); exact HO108.out) (Kd.R_base ho0) hb); have n1_ := Qab.mk (Kd.R_lower (Kd.R_new' ho0 (Kd.R_lt (by (with_reducible repeat (first | apply Kd.Qam | apply Kd.Qan | apply Kd.Qaq)); exact HO108.out))) (Qar (by repeat (first | (with_reducible first | exact HB.out | apply Qad | apply Qaa | apply Qac | refine Qah ?_ GE101.out | refine Qah ?_ GE102.out) | exact HB.out)))); have n2_ := Qab.mk (Qal (g := gb101) (o := Qap a0_0 a0_1 a0_2 a0_3 a0_4 (.slice A0_5 l0_5.length c0_5) 29) (by (with_reducible repeat (first | refine Qag ?_ _ | refine Qai ?_ | refine Qae ?_ _)); exact BK101.out) hb); have n3_ := Qab.mk (Qal (g := gb102) (o := Qap a1_0 a1_1 a1_2 a1_3 a1_4 (.slice A1_5 l1_5.length c1_5) 29) (by (with_reducible repeat (first | refine Qag ?_ _ | refine Qai ?_ | refine Qae ?_ _)); exact BK102.out) hb); have n4_ := Qab.mk (Qak (by repeat (first | (with_reducible first | exact HB.out | apply Qad | apply Qaa | apply Qac | refine Qah ?_ GE101.out | refine Qah ?_ GE102.out) | exact HB.out)) hb); clear HO108; clear BK101; clear BK102
         clear HB; have HO108 := n0_; have HO111 := n1_; have BK101 := n2_; have BK102 := n3_; have HB := n4_; clear n0_ n1_ n2_ n3_ n4_
         (try clear hb)
         (try clear hb2)
         (try clear hk)
         (try clear hi)
         (try clear ho0)
         obtain ⟨Ao37, co37, eo37⟩ := Kd.R_slice HO108.out
         (first | subst eo37 | (injection eo37 with f1_ f2_ f3_; have f4_ := f1_.symm; have f5_ := f3_.symm; clear f1_ f2_ f3_; subst f4_; subst f5_))
         obtain ⟨Ao38, co38, eo38⟩ := Kd.R_slice HO111.out
         (first | subst eo38 | (injection eo38 with f1_ f2_ f3_; have f4_ := f1_.symm; have f5_ := f3_.symm; clear f1_ f2_ f3_; subst f4_; subst f5_))
         refine hK.out _ _ ⟨(Qaj BK101.out 0).trans rfl, (Qaj BK101.out 1).trans rfl, (Qaj BK101.out 2).trans rfl, (Qaj BK101.out 3).trans rfl, (Qaj BK101.out 4).trans rfl, (Qaj BK101.out 5).trans rfl⟩ (fun hHeld => ?_); clear hK K; refine norm_ (a' := ?_) ?_ ?_; rotate_left
         ·show Act.put _ (some 24) _ = _
          simp only [Act.put, put_, QaG, QaI]; rfl
         refine one_ (i := 4) (N := some 25) #[tt,tt,tt,tt,tt,ff] rfl rfl (by kernel_rfl) (by decide) (fun K hK => ?_); refine goes_ Tryd.func13 (by kernel_rfl) rfl #[.slice Ao37 t106.length co37, .slice Ao38 t109.length co38] (by rfl) rfl rfl (by (try simp only [List.map_toArray, List.map_cons, List.map_nil]); first | done | rfl | (simp only [List.length_drop, List.length_take]; rfl)) ?_
         with_reducible refine (QaY.calls kj5 _ _ t106 _ _ t109 true _ ?side1 ?side2 ?side3 ?side4 A20.out).mono ?_
         (case side1 => repeat (first | exact (Kd.QaX HO108.out).2.2 | (with_reducible refine Kd.QaF ?_ _) | (with_reducible refine Kd.QaH ?_ _) | (with_reducible refine Kd.QaW ?_)))
         (case side2 => exact (Kd.QaX HO108.out).2.1)
         (case side3 => repeat (first | exact (Kd.QaX HO111.out).2.2 | (with_reducible refine Kd.QaF ?_ _) | (with_reducible refine Kd.QaH ?_ _) | (with_reducible refine Kd.QaW ?_)))
         (case side4 => exact (Kd.QaX HO111.out).2.1)
         rintro e w' ⟨rfl, ⟨nd, rfl⟩⟩; refine ⟨_, rfl, ?_⟩; refine hK.out _ _ ⟨(Qaj BK101.out 0).trans rfl, (Qaj BK101.out 1).trans rfl, (Qaj BK101.out 2).trans rfl, (Qaj BK101.out 3).trans rfl, (Qaj BK101.out 4).trans rfl, (Qaj BK101.out 5).trans rfl⟩ (fun hHeld => ?_); clear hK K; refine norm_ (a' := ?_) ?_ ?_; rotate_left
         ·show Act.put _ (some 25) _ = _
          simp only [Act.put, put_, QaG, QaI]; rfl
         refine Qa6 (i := 5) (N := some 9) (v := ?_) (a' := ?_) #[tt,tt,tt,tt,tt,tt] rfl rfl (by kernel_rfl) (fun _ _ _ h => h) (Or.inl ⟨by rfl, ?_⟩) ?_ ?_; rotate_left
         ·intro w'; go_simp; (with_reducible rfl)
         rotate_left
         ·simp only [Act.put, put_, QaG, QaI]; rfl
         refine done_ (by kernel_rfl) ?_
         try go_wp2
         (try (rw [drewN_self w36]; generalize hq_ : World.drewN w36 _ = w36; have n0_ : Qab (Kd.R k26 26 w36 w.heap.size (fun k_ => some k_ ≠ (.slice Ao38 t109.length co38 : Value).ownBlock) (.slice Ao37 t106.length co37) t106) := ⟨by rw [← hq_]; exact (by (with_reducible repeat (first | apply Kd.Qam | apply Kd.Qan | apply Kd.Qaq)); exact Kd.R_mono HO108.out (fun _ hk => hk.2))⟩; have n1_ : Qab (Kd.R k26 26 w36 w.heap.size (fun k_ => some k_ ≠ (.slice Ao37 t106.length co37 : Value).ownBlock) (.slice Ao38 t109.length co38) t109) := ⟨by rw [← hq_]; exact (by (with_reducible repeat (first | apply Kd.Qam | apply Kd.Qan | apply Kd.Qaq)); exact Kd.R_mono HO111.out (fun _ hk => hk.2))⟩; have n2_ : Qab (w36.heap[gb101]? = some (.cells #[.string a0_0, .string a0_1, .string a0_2, .int .i64 a0_3, .int .i64 a0_4, .slice A0_5 l0_5.length c0_5] 29 (0, 0))) := ⟨by rw [← hq_]; exact (by (with_reducible repeat (first | refine Qag ?_ _ | refine Qai ?_ | refine Qae ?_ _)); exact BK101.out)⟩; have n3_ : Qab (w36.heap[gb102]? = some (.cells #[.string a1_0, .string a1_1, .string a1_2, .int .i64 a1_3, .int .i64 a1_4, .slice A1_5 l1_5.length c1_5] 29 (0, 0))) := ⟨by rw [← hq_]; exact (by (with_reducible repeat (first | refine Qag ?_ _ | refine Qai ?_ | refine Qae ?_ _)); exact BK102.out)⟩; have n4_ : Qab (Below w.heap.size w w36) := ⟨by rw [← hq_]; exact (by repeat (first | (with_reducible first | exact HB.out | apply Qad | apply Qaa | apply Qac | refine Qah ?_ GE101.out | refine Qah ?_ GE102.out) | exact HB.out))⟩; clear HO108 HO111 BK101 BK102 HB hq_; have HO108 := n0_; have HO111 := n1_; have BK101 := n2_; have BK102 := n3_; have HB := n4_; clear n0_ n1_ n2_ n3_ n4_))
         have n0_ := Qab.mk (Kd.Qaq HO108.out); have n1_ := Qab.mk (Kd.Qaq HO111.out); have n2_ := Qab.mk (Qai BK101.out); have n3_ := Qab.mk (Qai BK102.out); have n4_ := Qab.mk (Qac HB.out); clear HO108; clear HO111; clear BK101; clear BK102; clear HB; have HO108 := n0_; have HO111 := n1_; have BK101 := n2_; have BK102 := n3_; have HB := n4_; clear n0_ n1_ n2_ n3_ n4_; refine start_ (n := 36) (S := fun w' => w'.cell? ⟨gb101, 0, none⟩ = some (.string a0_0) ∧ w'.cell? ⟨gb101, 1, none⟩ = some (.string a0_1) ∧ w'.cell? ⟨gb101, 2, none⟩ = some (.string a0_2) ∧ w'.cell? ⟨gb101, 3, none⟩ = some (.int .i64 a0_3) ∧ w'.cell? ⟨gb101, 4, none⟩ = some (.int .i64 a0_4) ∧ w'.cell? ⟨gb101, 5, none⟩ = some (.slice A0_5 l0_5.length c0_5) ∧ w'.cell? ⟨gb102, 0, none⟩ = some (.string a1_0) ∧ w'.cell? ⟨gb102, 1, none⟩ = some (.string a1_1) ∧ w'.cell? ⟨gb102, 2, none⟩ = some (.string a1_2) ∧ w'.cell? ⟨gb102, 3, none⟩ = some (.int .i64 a1_3) ∧ w'.cell? ⟨gb102, 4, none⟩ = some (.int .i64 a1_4) ∧ w'.cell? ⟨gb102, 5, none⟩ = some (.slice A1_5 l1_5.length c1_5)) (ds := []) #[ff,ff,ff,ff,ff,ff,ff,ff,ff,ff,ff,ff,ff,ff,ff,ff,ff,ff,ff,ff,ff,ff,ff,ff,ff,ff,ff,ff,ff,ff,ff,ff,ff,ff,ff,ff] (by kernel_rfl) rfl rfl ⟨(Qaj BK101.out 0).trans rfl, (Qaj BK101.out 1).trans rfl, (Qaj BK101.out 2).trans rfl, (Qaj BK101.out 3).trans rfl, (Qaj BK101.out 4).trans rfl, (Qaj BK101.out 5).trans rfl, (Qaj BK102.out 0).trans rfl, (Qaj BK102.out 1).trans rfl, (Qaj BK102.out 2).trans rfl, (Qaj BK102.out 3).trans rfl, (Qaj BK102.out 4).trans rfl, (Qaj BK102.out 5).trans rfl⟩ (fun hHeld => ?_); refine with_tabW QaP.tab6 QaP.bits6 (fun HT_ HW_ => ?_)
         generalize w36.drew = w39 at HO108 HO111 BK101 BK102 HB hHeld ⊢
         refine Qa6 (i := 0) (N := some 26) (v := ?_) (a' := ?_) #[tt,ff,ff,ff,ff,ff,ff,ff,ff,ff,ff,ff,ff,ff,ff,ff,ff,ff,ff,ff,ff,ff,ff,ff,ff,ff,ff,ff,ff,ff,ff,ff,ff,ff,ff,ff] rfl rfl (QaK HT_.out (by kernel_rfl)) (fun _ _ _ h => h) (Or.inl ⟨by rfl, ?_⟩) ?_ ?_; rotate_left
         ·intro w'; go_simp; (with_reducible rfl)
         rotate_left
         ·simp only [Act.put, put_, QaG, QaI]; rfl
         refine Qa6 (i := 1) (N := some 27) (v := ?_) (a' := ?_) #[tt,tt,ff,ff,ff,ff,ff,ff,ff,ff,ff,ff,ff,ff,ff,ff,ff,ff,ff,ff,ff,ff,ff,ff,ff,ff,ff,ff,ff,ff,ff,ff,ff,ff,ff,ff] rfl rfl (QaK HT_.out (by kernel_rfl)) (fun _ _ _ h => h) (Or.inl ⟨by rfl, ?_⟩) ?_ ?_; rotate_left
         ·intro w'; go_simp; (with_reducible rfl)
         rotate_left
         ·simp only [Act.put, put_, QaG, QaI]; rfl
         refine take_ (i := 2) (N := some 28) (v := ?_) (a' := ?_) #[tt,tt,tt,ff,ff,ff,ff,ff,ff,ff,ff,ff,ff,ff,ff,ff,ff,ff,ff,ff,ff,ff,ff,ff,ff,ff,ff,ff,ff,ff,ff,ff,ff,ff,ff,ff] rfl rfl (Qbh HT_.out HW_.out (by kernel_rfl)) (fun _ _ _ h => h) (Or.inl ⟨by rfl, ?_⟩) hHeld ?_ ?_; rotate_left
         ·rintro w' ⟨s0, s1, s2, s3, s4, s5, s6, s7, s8, s9, s10, s11⟩; go_simp; (with_reducible rfl)
         rotate_left
         ·simp only [Act.put, put_, QaG, QaI]; rfl
         refine take_ (i := 4) (N := some 30) (v := ?_) (a' := ?_) #[tt,tt,tt,ff,tt,ff,ff,ff,ff,ff,ff,ff,ff,ff,ff,ff,ff,ff,ff,ff,ff,ff,ff,ff,ff,ff,ff,ff,ff,ff,ff,ff,ff,ff,ff,ff] rfl rfl (Qbh HT_.out HW_.out (by kernel_rfl)) (fun _ _ _ h => h) (Or.inl ⟨by rfl, ?_⟩) hHeld ?_ ?_; rotate_left
         ·rintro w' ⟨s0, s1, s2, s3, s4, s5, s6, s7, s8, s9, s10, s11⟩; go_simp; (with_reducible rfl)
         rotate_left
         ·simp only [Act.put, put_, QaG, QaI]; rfl
         refine one_ (i := 3) (N := some 29) #[tt,tt,tt,tt,tt,ff,ff,ff,ff,ff,ff,ff,ff,ff,ff,ff,ff,ff,ff,ff,ff,ff,ff,ff,ff,ff,ff,ff,ff,ff,ff,ff,ff,ff,ff,ff] rfl rfl (one_of HT_.out (by kernel_rfl)) (by decide) (fun K hK => ?_); refine goes_ Tryd.func16 (by kernel_rfl) rfl #[.agg #[.string a0_0, .string a0_1, .string a0_2, .int .i64 a0_3, .int .i64 a0_4, .slice A0_5 l0_5.length c0_5]] (by rfl) rfl rfl (by (try simp only [List.map_toArray, List.map_cons, List.map_nil]); first | done | rfl | (simp only [List.length_drop, List.length_take]; rfl)) ?_
         with_reducible refine (Qbl.calls kj5 a0_0 a0_1 a0_2 a0_3 a0_4 _ _ l0_5 t113 _ ?side1 ?side2 A22.out).mono ?_
         (case side1 => repeat (first | exact (Kd.QaJ HR0_5.out HB.out) | (with_reducible refine Kd.QaF ?_ _) | (with_reducible refine Kd.QaH ?_ _) | (with_reducible refine Kd.QaW ?_)))
         (case side2 => exact HC0_5.out)
         rintro e w40 ⟨rfl, hb⟩; refine ⟨_, rfl, ?_⟩; have n0_ := Qab.mk (Kd.QaL (by (with_reducible repeat (first | apply Kd.Qam | apply Kd.Qan | apply Kd.Qaq)); exact HO108.out) hb); have n1_ := Qab.mk (Kd.QaL (by (with_reducible repeat (first | apply Kd.Qam | apply Kd.Qan | apply Kd.Qaq)); exact HO111.out) hb); have n2_ := Qab.mk (Qal (g := gb101) (o := Qap a0_0 a0_1 a0_2 a0_3 a0_4 (.slice A0_5 l0_5.length c0_5) 29) (by (with_reducible repeat (first | refine Qag ?_ _ | refine Qai ?_ | refine Qae ?_ _)); exact BK101.out) hb); have n3_ := Qab.mk (Qal (g := gb102) (o := Qap a1_0 a1_1 a1_2 a1_3 a1_4 (.slice A1_5 l1_5.length c1_5) 29) (by (with_reducible repeat (first | refine Qag ?_ _ | refine Qai ?_ | refine Qae ?_ _)); exact BK102.out) hb); have n4_ := Qab.mk (Qak (by repeat (first | (with_reducible first | exact HB.out | apply Qad | apply Qaa | apply Qac | refine Qah ?_ GE101.out | refine Qah ?_ GE102.out) | exact HB.out)) hb); clear HO108; clear HO111; clear BK101; clear BK102; clear HB; have HO108 := n0_; have HO111 := n1_; have BK101 := n2_; have BK102 := n3_; have HB := n4_; clear n0_ n1_ n2_ n3_ n4_
         (try clear hb)
         (try clear hb2)
         (try clear hk)
         (try clear hi)
         refine hK.out _ _ ⟨(Qaj BK101.out 0).trans rfl, (Qaj BK101.out 1).trans rfl, (Qaj BK101.out 2).trans rfl, (Qaj BK101.out 3).trans rfl, (Qaj BK101.out 4).trans rfl, (Qaj BK101.out 5).trans rfl, (Qaj BK102.out 0).trans rfl, (Qaj BK102.out 1).trans rfl, (Qaj BK102.out 2).trans rfl, (Qaj BK102.out 3).trans rfl, (Qaj BK102.out 4).trans rfl, (Qaj BK102.out 5).trans rfl⟩ (fun hHeld => ?_); clear hK K; refine norm_ (a' := ?_) ?_ ?_; rotate_left
         ·show Act.put _ (some 29) _ = _
          simp only [Act.put, put_, QaG, QaI]; rfl
         refine one_ (i := 5) (N := some 31) #[tt,tt,tt,tt,tt,tt,ff,ff,ff,ff,ff,ff,ff,ff,ff,ff,ff,ff,ff,ff,ff,ff,ff,ff,ff,ff,ff,ff,ff,ff,ff,ff,ff,ff,ff,ff] rfl rfl (one_of HT_.out (by kernel_rfl)) (by decide) (fun K hK => ?_); refine goes_ Tryd.func17 (by kernel_rfl) rfl #[.agg #[.string a0_0, .string a0_1, .string a0_2, .int .i64 a0_3, .int .i64 a0_4, .slice A0_5 l0_5.length c0_5]] (by rfl) rfl rfl (by (try simp only [List.map_toArray, List.map_cons, List.map_nil]); first | done | rfl | (simp only [List.length_drop, List.length_take]; rfl)) ?_
         with_reducible refine (liveryref07_Size.calls kj5 a0_0 a0_1 a0_2 a0_3 a0_4 _ _ l0_5 t114 _ ?side1 ?side2 A23.out).mono ?_
         (case side1 => repeat (first | exact (Kd.QaJ HR0_5.out HB.out) | (with_reducible refine Kd.QaF ?_ _) | (with_reducible refine Kd.QaH ?_ _) | (with_reducible refine Kd.QaW ?_)))
         (case side2 => exact HC0_5.out)
         rintro e w41 ⟨rfl, hb⟩; refine ⟨_, rfl, ?_⟩; have n0_ := Qab.mk (Kd.QaL (by (with_reducible repeat (first | apply Kd.Qam | apply Kd.Qan | apply Kd.Qaq)); exact HO108.out) hb); have n1_ := Qab.mk (Kd.QaL (by (with_reducible repeat (first | apply Kd.Qam | apply Kd.Qan | apply Kd.Qaq)); exact HO111.out) hb); have n2_ := Qab.mk (Qal (g := gb101) (o := Qap a0_0 a0_1 a0_2 a0_3 a0_4 (.slice A0_5 l0_5.length c0_5) 29) (by (with_reducible repeat (first | refine Qag ?_ _ | refine Qai ?_ | refine Qae ?_ _)); exact BK101.out) hb); have n3_ := Qab.mk (Qal (g := gb102) (o := Qap a1_0 a1_1 a1_2 a1_3 a1_4 (.slice A1_5 l1_5.length c1_5) 29) (by (with_reducible repeat (first | refine Qag ?_ _ | refine Qai ?_ | refine Qae ?_ _)); exact BK102.out) hb); have n4_ := Qab.mk (Qak (by repeat (first | (with_reducible first | exact HB.out | apply Qad | apply Qaa | apply Qac | refine Qah ?_ GE101.out | refine Qah ?_ GE102.out) | exact HB.out)) hb); clear HO108; clear HO111; clear BK101; clear BK102; clear HB; have HO108 := n0_; have HO111 := n1_; have BK101 := n2_; have BK102 := n3_; have HB := n4_; clear n0_ n1_ n2_ n3_ n4_
         (try clear hb)
         (try clear hb2)
         (try clear hk)
         (try clear hi)
         refine hK.out _ _ ⟨(Qaj BK101.out 0).trans rfl, (Qaj BK101.out 1).trans rfl, (Qaj BK101.out 2).trans rfl, (Qaj BK101.out 3).trans rfl, (Qaj BK101.out 4).trans rfl, (Qaj BK101.out 5).trans rfl, (Qaj BK102.out 0).trans rfl, (Qaj BK102.out 1).trans rfl, (Qaj BK102.out 2).trans rfl, (Qaj BK102.out 3).trans rfl, (Qaj BK102.out 4).trans rfl, (Qaj BK102.out 5).trans rfl⟩ (fun hHeld => ?_); clear hK K; refine norm_ (a' := ?_) ?_ ?_; rotate_left
         ·show Act.put _ (some 31) _ = _
          simp only [Act.put, put_, QaG, QaI]; rfl
         refine Qa6 (i := 6) (N := some 32) (v := ?_) (a' := ?_) #[tt,tt,tt,tt,tt,tt,tt,ff,ff,ff,ff,ff,ff,ff,ff,ff,ff,ff,ff,ff,ff,ff,ff,ff,ff,ff,ff,ff,ff,ff,ff,ff,ff,ff,ff,ff] rfl rfl (QaK HT_.out (by kernel_rfl)) (fun _ _ _ h => h) (Or.inl ⟨by rfl, ?_⟩) ?_ ?_; rotate_left
         ·intro w'; go_simp; (with_reducible rfl)
         rotate_left
         ·simp only [Act.put, put_, QaG, QaI]; rfl
         refine Qa6 (i := 7) (N := some 33) (v := ?_) (a' := ?_) #[tt,tt,tt,tt,tt,tt,tt,tt,ff,ff,ff,ff,ff,ff,ff,ff,ff,ff,ff,ff,ff,ff,ff,ff,ff,ff,ff,ff,ff,ff,ff,ff,ff,ff,ff,ff] rfl rfl (QaK HT_.out (by kernel_rfl)) (fun _ _ _ h => h) (Or.inl ⟨by rfl, ?_⟩) ?_ ?_; rotate_left
         ·intro w'; go_simp; (with_reducible rfl)
         rotate_left
         ·simp only [Act.put, put_, QaG, QaI]; rfl
         refine Qa6 (i := 8) (N := some 34) (v := ?_) (a' := ?_) #[tt,tt,tt,tt,tt,tt,tt,tt,tt,ff,ff,ff,ff,ff,ff,ff,ff,ff,ff,ff,ff,ff,ff,ff,ff,ff,ff,ff,ff,ff,ff,ff,ff,ff,ff,ff] rfl rfl (QaK HT_.out (by kernel_rfl)) (fun _ _ _ h => h) (Or.inl ⟨by rfl, ?_⟩) ?_ ?_; rotate_left
         ·intro w'; go_simp; (with_reducible rfl)
         rotate_left
         ·simp only [Act.put, put_, QaG, QaI]; rfl
         refine take_ (i := 9) (N := some 35) (v := ?_) (a' := ?_) #[tt,tt,tt,tt,tt,tt,tt,tt,tt,tt,ff,ff,ff,ff,ff,ff,ff,ff,ff,ff,ff,ff,ff,ff,ff,ff,ff,ff,ff,ff,ff,ff,ff,ff,ff,ff] rfl rfl (Qbh HT_.out HW_.out (by kernel_rfl)) (fun _ _ _ h => h) (Or.inl ⟨by rfl, ?_⟩) hHeld ?_ ?_; rotate_left
         ·rintro w' ⟨s0, s1, s2, s3, s4, s5, s6, s7, s8, s9, s10, s11⟩; go_simp; (with_reducible rfl)
         rotate_left
         ·simp only [Act.put, put_, QaG, QaI]; rfl
         refine take_ (i := 10) (N := some 36) (v := ?_) (a' := ?_) #[tt,tt,tt,tt,tt,tt,tt,tt,tt,tt,tt,ff,ff,ff,ff,ff,ff,ff,ff,ff,ff,ff,ff,ff,ff,ff,ff,ff,ff,ff,ff,ff,ff,ff,ff,ff] rfl rfl (Qbh HT_.out HW_.out (by kernel_rfl)) (fun _ _ _ h => h) (Or.inl ⟨by rfl, ?_⟩) hHeld ?_ ?_; rotate_left
         ·rintro w' ⟨s0, s1, s2, s3, s4, s5, s6, s7, s8, s9, s10, s11⟩; go_simp; (with_reducible rfl)
         rotate_left
         ·simp only [Act.put, put_, QaG, QaI]; rfl
         refine take_ (i := 12) (N := some 38) (v := ?_) (a' := ?_) #[tt,tt,tt,tt,tt,tt,tt,tt,tt,tt,tt,ff,tt,ff,ff,ff,ff,ff,ff,ff,ff,ff,ff,ff,ff,ff,ff,ff,ff,ff,ff,ff,ff,ff,ff,ff] rfl rfl (Qbh HT_.out HW_.out (by kernel_rfl)) (fun _ _ _ h => h) (Or.inl ⟨by rfl, ?_⟩) hHeld ?_ ?_; rotate_left
         ·rintro w' ⟨s0, s1, s2, s3, s4, s5, s6, s7, s8, s9, s10, s11⟩; go_simp; (with_reducible rfl)
         rotate_left
         ·simp only [Act.put, put_, QaG, QaI]; rfl
         refine take_ (i := 13) (N := some 39) (v := ?_) (a' := ?_) #[tt,tt,tt,tt,tt,tt,tt,tt,tt,tt,tt,ff,tt,tt,ff,ff,ff,ff,ff,ff,ff,ff,ff,ff,ff,ff,ff,ff,ff,ff,ff,ff,ff,ff,ff,ff] rfl rfl (Qbh HT_.out HW_.out (by kernel_rfl)) (fun _ _ _ h => h) (Or.inl ⟨by rfl, ?_⟩) hHeld ?_ ?_; rotate_left
         ·rintro w' ⟨s0, s1, s2, s3, s4, s5, s6, s7, s8, s9, s10, s11⟩; go_simp; (with_reducible rfl)
         rotate_left
         ·simp only [Act.put, put_, QaG, QaI]; rfl
         refine one_ (i := 11) (N := some 37) #[tt,tt,tt,tt,tt,tt,tt,tt,tt,tt,tt,tt,tt,tt,ff,ff,ff,ff,ff,ff,ff,ff,ff,ff,ff,ff,ff,ff,ff,ff,ff,ff,ff,ff,ff,ff] rfl rfl (one_of HT_.out (by kernel_rfl)) (by decide) (fun K hK => ?_); refine goes_ Tryd.func18 (by kernel_rfl) rfl #[.agg #[.string a0_0, .string a0_1, .string a0_2, .int .i64 a0_3, .int .i64 a0_4, .slice A0_5 l0_5.length c0_5], .agg #[.string a1_0, .string a1_1, .string a1_2, .int .i64 a1_3, .int .i64 a1_4, .slice A1_5 l1_5.length c1_5]] (by rfl) rfl rfl (by (try simp only [List.map_toArray, List.map_cons, List.map_nil]); first | done | rfl | (simp only [List.length_drop, List.length_take]; rfl)) ?_
         with_reducible refine (Qa7.calls a0_0 a0_1 a0_2 a0_3 a0_4 _ _ l0_5 a1_0 a1_1 a1_2 a1_3 a1_4 _ _ l1_5 t115 _ ?side1 ?side2 ?side3 ?side4 A25.out).mono ?_
         (case side1 => repeat (first | exact (Kd.QaJ HR0_5.out HB.out) | (with_reducible refine Kd.QaF ?_ _) | (with_reducible refine Kd.QaH ?_ _) | (with_reducible refine Kd.QaW ?_)))
         (case side2 => exact HC0_5.out)
         (case side3 => repeat (first | exact (Kd.QaJ HR1_5.out HB.out) | (with_reducible refine Kd.QaF ?_ _) | (with_reducible refine Kd.QaH ?_ _) | (with_reducible refine Kd.QaW ?_)))
         (case side4 => exact HC1_5.out)
         rintro e w42 ⟨rfl, hb⟩; refine ⟨_, rfl, ?_⟩; have n0_ := Qab.mk (Kd.QaL (by (with_reducible repeat (first | apply Kd.Qam | apply Kd.Qan | apply Kd.Qaq)); exact HO108.out) hb); have n1_ := Qab.mk (Kd.QaL (by (with_reducible repeat (first | apply Kd.Qam | apply Kd.Qan | apply Kd.Qaq)); exact HO111.out) hb); have n2_ := Qab.mk (Qal (g := gb101) (o := Qap a0_0 a0_1 a0_2 a0_3 a0_4 (.slice A0_5 l0_5.length c0_5) 29) (by (with_reducible repeat (first | refine Qag ?_ _ | refine Qai ?_ | refine Qae ?_ _)); exact BK101.out) hb); have n3_ := Qab.mk (Qal (g := gb102) (o := Qap a1_0 a1_1 a1_2 a1_3 a1_4 (.slice A1_5 l1_5.length c1_5) 29) (by (with_reducible repeat (first | refine Qag ?_ _ | refine Qai ?_ | refine Qae ?_ _)); exact BK102.out) hb); have n4_ := Qab.mk (Qak (by repeat (first | (with_reducible first | exact HB.out | apply Qad | apply Qaa | apply Qac | refine Qah ?_ GE101.out | refine Qah ?_ GE102.out) | exact HB.out)) hb); clear HO108; clear HO111; clear BK101; clear BK102; clear HB; have HO108 := n0_; have HO111 := n1_; have BK101 := n2_; have BK102 := n3_; have HB := n4_; clear n0_ n1_ n2_ n3_ n4_
         (try clear hb)
         (try clear hb2)
         (try clear hk)
         (try clear hi)
         refine hK.out _ _ ⟨(Qaj BK101.out 0).trans rfl, (Qaj BK101.out 1).trans rfl, (Qaj BK101.out 2).trans rfl, (Qaj BK101.out 3).trans rfl, (Qaj BK101.out 4).trans rfl, (Qaj BK101.out 5).trans rfl, (Qaj BK102.out 0).trans rfl, (Qaj BK102.out 1).trans rfl, (Qaj BK102.out 2).trans rfl, (Qaj BK102.out 3).trans rfl, (Qaj BK102.out 4).trans rfl, (Qaj BK102.out 5).trans rfl⟩ (fun hHeld => ?_); clear hK K; refine norm_ (a' := ?_) ?_ ?_; rotate_left
         ·show Act.put _ (some 37) _ = _
          simp only [Act.put, put_, QaG, QaI]; rfl
         refine one_ (i := 14) (N := some 40) #[tt,tt,tt,tt,tt,tt,tt,tt,tt,tt,tt,tt,tt,tt,tt,ff,ff,ff,ff,ff,ff,ff,ff,ff,ff,ff,ff,ff,ff,ff,ff,ff,ff,ff,ff,ff] rfl rfl (one_of HT_.out (by kernel_rfl)) (by decide) (fun K hK => ?_); refine goes_ Tryd.func19 (by kernel_rfl) rfl #[.agg #[.string a0_0, .string a0_1, .string a0_2, .int .i64 a0_3, .int .i64 a0_4, .slice A0_5 l0_5.length c0_5], .agg #[.string a1_0, .string a1_1, .string a1_2, .int .i64 a1_3, .int .i64 a1_4, .slice A1_5 l1_5.length c1_5]] (by rfl) rfl rfl (by (try simp only [List.map_toArray, List.map_cons, List.map_nil]); first | done | rfl | (simp only [List.length_drop, List.length_take]; rfl)) ?_
         with_reducible refine (QaC.calls kj5 a0_0 a0_1 a0_2 a0_3 a0_4 _ _ l0_5 a1_0 a1_1 a1_2 a1_3 a1_4 _ _ l1_5 t116 _ ?side1 ?side2 ?side3 ?side4 A26.out).mono ?_
         (case side1 => repeat (first | exact (Kd.QaJ HR0_5.out HB.out) | (with_reducible refine Kd.QaF ?_ _) | (with_reducible refine Kd.QaH ?_ _) | (with_reducible refine Kd.QaW ?_)))
         (case side2 => exact HC0_5.out)
         (case side3 => repeat (first | exact (Kd.QaJ HR1_5.out HB.out) | (with_reducible refine Kd.QaF ?_ _) | (with_reducible refine Kd.QaH ?_ _) | (with_reducible refine Kd.QaW ?_)))
         (case side4 => exact HC1_5.out)
         rintro e w43 ⟨rfl, hb⟩; refine ⟨_, rfl, ?_⟩; have n0_ := Qab.mk (Kd.QaL (by (with_reducible repeat (first | apply Kd.Qam | apply Kd.Qan | apply Kd.Qaq)); exact HO108.out) hb); have n1_ := Qab.mk (Kd.QaL (by (with_reducible repeat (first | apply Kd.Qam | apply Kd.Qan | apply Kd.Qaq)); exact HO111.out) hb); have n2_ := Qab.mk (Qal (g := gb101) (o := Qap a0_0 a0_1 a0_2 a0_3 a0_4 (.slice A0_5 l0_5.length c0_5) 29) (by (with_reducible repeat (first | refine Qag ?_ _ | refine Qai ?_ | refine Qae ?_ _)); exact BK101.out) hb); have n3_ := Qab.mk (Qal (g := gb102) (o := Qap a1_0 a1_1 a1_2 a1_3 a1_4 (.slice A1_5 l1_5.length c1_5) 29) (by (with_reducible repeat (first | refine Qag ?_ _ | refine Qai ?_ | refine Qae ?_ _)); exact BK102.out) hb); have n4_ := Qab.mk (Qak (by repeat (first | (with_reducible first | exact HB.out | apply Qad | apply Qaa | apply Qac | refine Qah ?_ GE101.out | refine Qah ?_ GE102.out) | exact HB.out)) hb); clear HO108; clear HO111; clear BK101; clear BK102; clear HB; have HO108 := n0_; have HO111 := n1_; have BK101 := n2_; have BK102 := n3_; have HB := n4_; clear n0_ n1_ n2_ n3_ n4_
         (try clear hb)
         (try clear hb2)
         (try clear hk)
         (try clear hi)
         refine hK.out _ _ ⟨(Qaj BK101.out 0).trans rfl, (Qaj BK101.out 1).trans rfl, (Qaj BK101.out 2).trans rfl, (Qaj BK101.out 3).trans rfl, (Qaj BK101.out 4).trans rfl, (Qaj BK101.out 5).trans rfl, (Qaj BK102.out 0).trans rfl, (Qaj BK102.out 1).trans rfl, (Qaj BK102.out 2).trans rfl, (Qaj BK102.out 3).trans rfl, (Qaj BK102.out 4).trans rfl, (Qaj BK102.out 5).trans rfl⟩ (fun hHeld => ?_); clear hK K; refine norm_ (a' := ?_) ?_ ?_; rotate_left
         ·show Act.put _ (some 40) _ = _
          simp only [Act.put, put_, QaG, QaI]; rfl
         refine Qa6 (i := 15) (N := some 41) (v := ?_) (a' := ?_) #[tt,tt,tt,tt,tt,tt,tt,tt,tt,tt,tt,tt,tt,tt,tt,tt,ff,ff,ff,ff,ff,ff,ff,ff,ff,ff,ff,ff,ff,ff,ff,ff,ff,ff,ff,ff] rfl rfl (QaK HT_.out (by kernel_rfl)) (fun _ _ _ h => h) (Or.inl ⟨by rfl, ?_⟩) ?_ ?_; rotate_left
         ·intro w'; go_simp; (with_reducible rfl)
         rotate_left
         ·simp only [Act.put, put_, QaG, QaI]; rfl
         refine Qa6 (i := 16) (N := some 42) (v := ?_) (a' := ?_) #[tt,tt,tt,tt,tt,tt,tt,tt,tt,tt,tt,tt,tt,tt,tt,tt,tt,ff,ff,ff,ff,ff,ff,ff,ff,ff,ff,ff,ff,ff,ff,ff,ff,ff,ff,ff] rfl rfl (QaK HT_.out (by kernel_rfl)) (fun _ _ _ h => h) (Or.inl ⟨by rfl, ?_⟩) ?_ ?_; rotate_left
         ·intro w'; go_simp; (with_reducible rfl)
         rotate_left
         ·simp only [Act.put, put_, QaG, QaI]; rfl
         refine Qa6 (i := 17) (N := some 43) (v := ?_) (a' := ?_) #[tt,tt,tt,tt,tt,tt,tt,tt,tt,tt,tt,tt,tt,tt,tt,tt,tt,tt,ff,ff,ff,ff,ff,ff,ff,ff,ff,ff,ff,ff,ff,ff,ff,ff,ff,ff] rfl rfl (QaK HT_.out (by kernel_rfl)) (fun _ _ _ h => h) (Or.inl ⟨by rfl, ?_⟩) ?_ ?_; rotate_left
         ·intro w'; go_simp; (with_reducible rfl)
         rotate_left
         ·simp only [Act.put, put_, QaG, QaI]; rfl
         refine take_ (i := 18) (N := some 44) (v := ?_) (a' := ?_) #[tt,tt,tt,tt,tt,tt,tt,tt,tt,tt,tt,tt,tt,tt,tt,tt,tt,tt,tt,ff,ff,ff,ff,ff,ff,ff,ff,ff,ff,ff,ff,ff,ff,ff,ff,ff] rfl rfl (Qbh HT_.out HW_.out (by kernel_rfl)) (fun _ _ _ h => h) (Or.inl ⟨by rfl, ?_⟩) hHeld ?_ ?_; rotate_left
         ·rintro w' ⟨s0, s1, s2, s3, s4, s5, s6, s7, s8, s9, s10, s11⟩; go_simp; (with_reducible rfl)
         rotate_left
         ·simp only [Act.put, put_, QaG, QaI]; rfl
         refine take_ (i := 19) (N := some 45) (v := ?_) (a' := ?_) #[tt,tt,tt,tt,tt,tt,tt,tt,tt,tt,tt,tt,tt,tt,tt,tt,tt,tt,tt,tt,ff,ff,ff,ff,ff,ff,ff,ff,ff,ff,ff,ff,ff,ff,ff,ff] rfl rfl (Qbh HT_.out HW_.out (by kernel_rfl)) (fun _ _ _ h => h) (Or.inl ⟨by rfl, ?_⟩) hHeld ?_ ?_; rotate_left
         ·rintro w' ⟨s0, s1, s2, s3, s4, s5, s6, s7, s8, s9, s10, s11⟩; go_simp; (with_reducible rfl)
         rotate_left
         ·simp only [Act.put, put_, QaG, QaI]; rfl
         refine one_ (i := 20) (N := some 46) #[tt,tt,tt,tt,tt,tt,tt,tt,tt,tt,tt,tt,tt,tt,tt,tt,tt,tt,tt,tt,tt,ff,ff,ff,ff,ff,ff,ff,ff,ff,ff,ff,ff,ff,ff,ff] rfl rfl (one_of HT_.out (by kernel_rfl)) (by decide) (fun K hK => ?_); refine goes_ Tryd.func18 (by kernel_rfl) rfl #[.agg #[.string a0_0, .string a0_1, .string a0_2, .int .i64 a0_3, .int .i64 a0_4, .slice A0_5 l0_5.length c0_5], .agg #[.string a0_0, .string a0_1, .string a0_2, .int .i64 a0_3, .int .i64 a0_4, .slice A0_5 l0_5.length c0_5]] (by rfl) rfl rfl (by (try simp only [List.map_toArray, List.map_cons, List.map_nil]); first | done | rfl | (simp only [List.length_drop, List.length_take]; rfl)) ?_
         with_reducible refine (Qa7.calls a0_0 a0_1 a0_2 a0_3 a0_4 _ _ l0_5 a0_0 a0_1 a0_2 a0_3 a0_4 _ _ l0_5 true _ ?side1 ?side2 ?side3 ?side4 A28.out).mono ?_
         (case side1 => repeat (first | exact (Kd.QaJ HR0_5.out HB.out) | (with_reducible refine Kd.QaF ?_ _) | (with_reducible refine Kd.QaH ?_ _) | (with_reducible refine Kd.QaW ?_)))
         (case side2 => exact HC0_5.out)
         (case side3 => repeat (first | exact (Kd.QaJ HR0_5.out HB.out) | (with_reducible refine Kd.QaF ?_ _) | (with_reducible refine Kd.QaH ?_ _) | (with_reducible refine Kd.QaW ?_)))
         (case side4 => exact HC0_5.out)
         rintro e w44 ⟨rfl, hb⟩; refine ⟨_, rfl, ?_⟩; have n0_ := Qab.mk (Kd.QaL (by (with_reducible repeat (first | apply Kd.Qam | apply Kd.Qan | apply Kd.Qaq)); exact HO108.out) hb); have n1_ := Qab.mk (Kd.QaL (by (with_reducible repeat (first | apply Kd.Qam | apply Kd.Qan | apply Kd.Qaq)); exact HO111.out) hb); have n2_ := Qab.mk (Qal (g := gb101) (o := Qap a0_0 a0_1 a0_2 a0_3 a0_4 (.slice A0_5 l0_5.length c0_5) 29) (by (with_reducible repeat (first | refine Qag ?_ _ | refine Qai ?_ | refine Qae ?_ _)); exact BK101.out) hb); have n3_ := Qab.mk (Qal (g := gb102) (o := Qap a1_0 a1_1 a1_2 a1_3 a1_4 (.slice A1_5 l1_5.length c1_5) 29) (by (with_reducible repeat (first | refine Qag ?_ _ | refine Qai ?_ | refine Qae ?_ _)); exact BK102.out) hb); have n4_ := Qab.mk (Qak (by repeat (first | (with_reducible first | exact HB.out | apply Qad | apply Qaa | apply Qac | refine Qah ?_ GE101.out | refine Qah ?_ GE102.out) | exact HB.out)) hb); clear HO108; clear HO111; clear BK101; clear BK102; clear HB; have HO108 := n0_; have HO111 := n1_; have BK101 := n2_; have BK102 := n3_; have HB := n4_; clear n0_ n1_ n2_ n3_ n4_
         (try clear hb)
         (try clear hb2)
         (try clear hk)
         (try clear hi)
         refine hK.out _ _ ⟨(Qaj BK101.out 0).trans rfl, (Qaj BK101.out 1).trans rfl, (Qaj BK101.out 2).trans rfl, (Qaj BK101.out 3).trans rfl, (Qaj BK101.out 4).trans rfl, (Qaj BK101.out 5).trans rfl, (Qaj BK102.out 0).trans rfl, (Qaj BK102.out 1).trans rfl, (Qaj BK102.out 2).trans rfl, (Qaj BK102.out 3).trans rfl, (Qaj BK102.out 4).trans rfl, (Qaj BK102.out 5).trans rfl⟩ (fun hHeld => ?_); clear hK K; refine norm_ (a' := ?_) ?_ ?_; rotate_left
         ·show Act.put _ (some 46) _ = _
          simp only [Act.put, put_, QaG, QaI]; rfl
         refine Qa6 (i := 21) (N := some 47) (v := ?_) (a' := ?_) #[tt,tt,tt,tt,tt,tt,tt,tt,tt,tt,tt,tt,tt,tt,tt,tt,tt,tt,tt,tt,tt,tt,ff,ff,ff,ff,ff,ff,ff,ff,ff,ff,ff,ff,ff,ff] rfl rfl (QaK HT_.out (by kernel_rfl)) (fun _ _ _ h => h) (Or.inl ⟨by rfl, ?_⟩) ?_ ?_; rotate_left
         ·intro w'; go_simp; (with_reducible rfl)
         rotate_left
         ·simp only [Act.put, put_, QaG, QaI]; rfl
         refine Qa6 (i := 22) (N := some 48) (v := ?_) (a' := ?_) #[tt,tt,tt,tt,tt,tt,tt,tt,tt,tt,tt,tt,tt,tt,tt,tt,tt,tt,tt,tt,tt,tt,tt,ff,ff,ff,ff,ff,ff,ff,ff,ff,ff,ff,ff,ff] rfl rfl (QaK HT_.out (by kernel_rfl)) (fun _ _ _ h => h) (Or.inl ⟨by rfl, ?_⟩) ?_ ?_; rotate_left
         ·intro w'; go_simp; (with_reducible rfl)
         rotate_left
         ·simp only [Act.put, put_, QaG, QaI]; rfl
         refine Qa6 (i := 24) (N := some 50) (v := ?_) (a' := ?_) #[tt,tt,tt,tt,tt,tt,tt,tt,tt,tt,tt,tt,tt,tt,tt,tt,tt,tt,tt,tt,tt,tt,tt,ff,tt,ff,ff,ff,ff,ff,ff,ff,ff,ff,ff,ff] rfl rfl (QaK HT_.out (by kernel_rfl)) (fun _ _ _ h => h) (Or.inl ⟨by rfl, ?_⟩) ?_ ?_; rotate_left
         ·intro w'; go_simp; (with_reducible rfl)
         rotate_left
         ·simp only [Act.put, put_, QaG, QaI]; rfl
         refine Qa6 (i := 26) (N := some 52) (v := ?_) (a' := ?_) #[tt,tt,tt,tt,tt,tt,tt,tt,tt,tt,tt,tt,tt,tt,tt,tt,tt,tt,tt,tt,tt,tt,tt,ff,tt,ff,tt,ff,ff,ff,ff,ff,ff,ff,ff,ff] rfl rfl (QaK HT_.out (by kernel_rfl)) (fun _ _ _ h => h) (Or.inl ⟨by rfl, ?_⟩) ?_ ?_; rotate_left
         ·intro w'; go_simp; (with_reducible rfl)
         rotate_left
         ·simp only [Act.put, put_, QaG, QaI]; rfl
         refine take_ (i := 23) (N := some 49) (v := ?_) (a' := ?_) #[tt,tt,tt,tt,tt,tt,tt,tt,tt,tt,tt,tt,tt,tt,tt,tt,tt,tt,tt,tt,tt,tt,tt,tt,tt,ff,tt,ff,ff,ff,ff,ff,ff,ff,ff,ff] rfl rfl (Qbh HT_.out HW_.out (by kernel_rfl)) (fun _ _ _ h => h) (Or.inl ⟨by rfl, ?_⟩) hHeld ?_ ?_; rotate_left
         ·rintro w' ⟨s0, s1, s2, s3, s4, s5, s6, s7, s8, s9, s10, s11⟩; go_simp; (with_reducible rfl)
         rotate_left
         ·simp only [Act.put, put_, QaG, QaI]; rfl
         refine take_ (i := 27) (N := some 53) (v := ?_) (a' := ?_) #[tt,tt,tt,tt,tt,tt,tt,tt,tt,tt,tt,tt,tt,tt,tt,tt,tt,tt,tt,tt,tt,tt,tt,tt,tt,ff,tt,tt,ff,ff,ff,ff,ff,ff,ff,ff] rfl rfl (Qbh HT_.out HW_.out (by kernel_rfl)) (fun _ _ _ h => h) (Or.inl ⟨by rfl, ?_⟩) hHeld ?_ ?_; rotate_left
         ·rintro w' ⟨s0, s1, s2, s3, s4, s5, s6, s7, s8, s9, s10, s11⟩; go_simp; (with_reducible rfl)
         rotate_left
         ·simp only [Act.put, put_, QaG, QaI]; rfl
         refine one_ (i := 25) (N := some 51) #[tt,tt,tt,tt,tt,tt,tt,tt,tt,tt,tt,tt,tt,tt,tt,tt,tt,tt,tt,tt,tt,tt,tt,tt,tt,tt,tt,tt,ff,ff,ff,ff,ff,ff,ff,ff] rfl rfl (one_of HT_.out (by kernel_rfl)) (by decide) (fun K hK => ?_); refine goes_ Tryd.func20 (by kernel_rfl) rfl #[.agg #[.string a0_0, .string a0_1, .string a0_2, .int .i64 a0_3, .int .i64 a0_4, .slice A0_5 l0_5.length c0_5], .int .i64 a2] (by rfl) rfl rfl (by (try simp only [List.map_toArray, List.map_cons, List.map_nil]); first | done | rfl | (simp only [List.length_drop, List.length_take]; rfl)) ?_
         with_reducible refine (QaR.calls kj5 a0_0 a0_1 a0_2 a0_3 a0_4 _ _ l0_5 a2 t118 _ ?side1 ?side2 A30.out).mono ?_
         (case side1 => repeat (first | exact (Kd.QaJ HR0_5.out HB.out) | (with_reducible refine Kd.QaF ?_ _) | (with_reducible refine Kd.QaH ?_ _) | (with_reducible refine Kd.QaW ?_)))
         (case side2 => exact HC0_5.out)
         rintro e w45 ⟨rfl, hb⟩; refine ⟨_, rfl, ?_⟩; have n0_ := Qab.mk (Kd.QaL (by (with_reducible repeat (first | apply Kd.Qam | apply Kd.Qan | apply Kd.Qaq)); exact HO108.out) hb); have n1_ := Qab.mk (Kd.QaL (by (with_reducible repeat (first | apply Kd.Qam | apply Kd.Qan | apply Kd.Qaq)); exact HO111.out) hb); have n2_ := Qab.mk (Qal (g := gb101) (o := Qap a0_0 a0_1 a0_2 a0_3 a0_4 (.slice A0_5 l0_5.length c0_5) 29) (by (with_reducible repeat (first | refine Qag ?_ _ | refine Qai ?_ | refine Qae ?_ _)); exact BK101.out) hb); have n3_ := Qab.mk (Qal (g := gb102) (o := Qap a1_0 a1_1 a1_2 a1_3 a1_4 (.slice A1_5 l1_5.length c1_5) 29) (by (with_reducible repeat (first | refine Qag ?_ _ | refine Qai ?_ | refine Qae ?_ _)); exact BK102.out) hb); have n4_ := Qab.mk (Qak (by repeat (first | (with_reducible first | exact HB.out | apply Qad | apply Qaa | apply Qac | refine Qah ?_ GE101.out | refine Qah ?_ GE102.out) | exact HB.out)) hb); clear HO108; clear HO111; clear BK101; clear BK102; clear HB; have HO108 := n0_; have HO111 := n1_; have BK101 := n2_; have BK102 := n3_; have HB := n4_; clear n0_ n1_ n2_ n3_ n4_
         (try clear hb)
         (try clear hb2)
         (try clear hk)
         (try clear hi)
         refine hK.out _ _ ⟨(Qaj BK101.out 0).trans rfl, (Qaj BK101.out 1).trans rfl, (Qaj BK101.out 2).trans rfl, (Qaj BK101.out 3).trans rfl, (Qaj BK101.out 4).trans rfl, (Qaj BK101.out 5).trans rfl, (Qaj BK102.out 0).trans rfl, (Qaj BK102.out 1).trans rfl, (Qaj BK102.out 2).trans rfl, (Qaj BK102.out 3).trans rfl, (Qaj BK102.out 4).trans rfl, (Qaj BK102.out 5).trans rfl⟩ (fun hHeld => ?_); clear hK K; refine norm_ (a' := ?_) ?_ ?_; rotate_left
         ·show Act.put _ (some 51) _ = _
          simp only [Act.put, put_, QaG, QaI]; rfl
         refine one_ (i := 28) (N := some 54) #[tt,tt,tt,tt,tt,tt,tt,tt,tt,tt,tt,tt,tt,tt,tt,tt,tt,tt,tt,tt,tt,tt,tt,tt,tt,tt,tt,tt,tt,ff,ff,ff,ff,ff,ff,ff] rfl rfl (one_of HT_.out (by kernel_rfl)) (by decide) (fun K hK => ?_); refine goes_ Tryd.func21 (by kernel_rfl) rfl #[.agg #[.string a0_0, .string a0_1, .string a0_2, .int .i64 a0_3, .int .i64 a0_4, .slice A0_5 l0_5.length c0_5]] (by rfl) rfl rfl (by (try simp only [List.map_toArray, List.map_cons, List.map_nil]); first | done | rfl | (simp only [List.length_drop, List.length_take]; rfl)) ?_
         with_reducible refine (Qa3.calls kj5 a0_0 a0_1 a0_2 a0_3 a0_4 _ _ l0_5 t119 _ ?side1 ?side2 A31.out).mono ?_
         (case side1 => repeat (first | exact (Kd.QaJ HR0_5.out HB.out) | (with_reducible refine Kd.QaF ?_ _) | (with_reducible refine Kd.QaH ?_ _) | (with_reducible refine Kd.QaW ?_)))
         (case side2 => exact HC0_5.out)
         rintro e w46 ⟨rfl, hb⟩; refine ⟨_, rfl, ?_⟩; have n0_ := Qab.mk (Kd.QaL (by (with_reducible repeat (first | apply Kd.Qam | apply Kd.Qan | apply Kd.Qaq)); exact HO108.out) hb); have n1_ := Qab.mk (Kd.QaL (by (with_reducible repeat (first | apply Kd.Qam | apply Kd.Qan | apply Kd.Qaq)); exact HO111.out) hb); have n2_ := Qab.mk (Qal (g := gb101) (o := Qap a0_0 a0_1 a0_2 a0_3 a0_4 (.slice A0_5 l0_5.length c0_5) 29) (by (with_reducible repeat (first | refine Qag ?_ _ | refine Qai ?_ | refine Qae ?_ _)); exact BK101.out) hb); have n3_ := Qab.mk (Qal (g := gb102) (o := Qap a1_0 a1_1 a1_2 a1_3 a1_4 (.slice A1_5 l1_5.length c1_5) 29) (by (with_reducible repeat (first | refine Qag ?_ _ | refine Qai ?_ | refine Qae ?_ _)); exact BK102.out) hb); have n4_ := Qab.mk (Qak (by repeat (first | (with_reducible first | exact HB.out | apply Qad | apply Qaa | apply Qac | refine Qah ?_ GE101.out | refine Qah ?_ GE102.out) | exact HB.out)) hb); clear HO108; clear HO111; clear BK101; clear BK102; clear HB; have HO108 := n0_; have HO111 := n1_; have BK101 := n2_; have BK102 := n3_; have HB := n4_; clear n0_ n1_ n2_ n3_ n4_
         (try clear hb)
         (try clear hb2)
         (try clear hk)
         (try clear hi)
         refine hK.out _ _ ⟨(Qaj BK101.out 0).trans rfl, (Qaj BK101.out 1).trans rfl, (Qaj BK101.out 2).trans rfl, (Qaj BK101.out 3).trans rfl, (Qaj BK101.out 4).trans rfl, (Qaj BK101.out 5).trans rfl, (Qaj BK102.out 0).trans rfl, (Qaj BK102.out 1).trans rfl, (Qaj BK102.out 2).trans rfl, (Qaj BK102.out 3).trans rfl, (Qaj BK102.out 4).trans rfl, (Qaj BK102.out 5).trans rfl⟩ (fun hHeld => ?_); clear hK K; refine norm_ (a' := ?_) ?_ ?_; rotate_left
         ·show Act.put _ (some 54) _ = _
          simp only [Act.put, put_, QaG, QaI]; rfl
         refine Qa6 (i := 29) (N := some 55) (v := ?_) (a' := ?_) #[tt,tt,tt,tt,tt,tt,tt,tt,tt,tt,tt,tt,tt,tt,tt,tt,tt,tt,tt,tt,tt,tt,tt,tt,tt,tt,tt,tt,tt,tt,ff,ff,ff,ff,ff,ff] rfl rfl (QaK HT_.out (by kernel_rfl)) (fun _ _ _ h => h) (Or.inl ⟨by rfl, ?_⟩) ?_ ?_; rotate_left
         ·intro w'; go_simp; (with_reducible rfl)
         rotate_left
         ·simp only [Act.put, put_, QaG, QaI]; rfl
         refine Qa6 (i := 30) (N := some 56) (v := ?_) (a' := ?_) #[tt,tt,tt,tt,tt,tt,tt,tt,tt,tt,tt,tt,tt,tt,tt,tt,tt,tt,tt,tt,tt,tt,tt,tt,tt,tt,tt,tt,tt,tt,tt,ff,ff,ff,ff,ff] rfl rfl (QaK HT_.out (by kernel_rfl)) (fun _ _ _ h => h) (Or.inl ⟨by rfl, ?_⟩) ?_ ?_; rotate_left
         ·intro w'; go_simp; (with_reducible rfl)
         rotate_left
         ·simp only [Act.put, put_, QaG, QaI]; rfl
         refine Qa6 (i := 31) (N := some 57) (v := ?_) (a' := ?_) #[tt,tt,tt,tt,tt,tt,tt,tt,tt,tt,tt,tt,tt,tt,tt,tt,tt,tt,tt,tt,tt,tt,tt,tt,tt,tt,tt,tt,tt,tt,tt,tt,ff,ff,ff,ff] rfl rfl (QaK HT_.out (by kernel_rfl)) (fun _ _ _ h => h) (Or.inl ⟨by rfl, ?_⟩) ?_ ?_; rotate_left
         ·intro w'; go_simp; (with_reducible rfl)
         rotate_left
         ·simp only [Act.put, put_, QaG, QaI]; rfl
         refine Qa6 (i := 32) (N := some 58) (v := ?_) (a' := ?_) #[tt,tt,tt,tt,tt,tt,tt,tt,tt,tt,tt,tt,tt,tt,tt,tt,tt,tt,tt,tt,tt,tt,tt,tt,tt,tt,tt,tt,tt,tt,tt,tt,tt,ff,ff,ff] rfl rfl (QaK HT_.out (by kernel_rfl)) (fun _ _ _ h => h) (Or.inl ⟨by rfl, ?_⟩) ?_ ?_; rotate_left
         ·intro w'; go_simp; (with_reducible rfl)
         rotate_left
         ·simp only [Act.put, put_, QaG, QaI]; rfl
         refine one_ (i := 33) (N := some 59) #[tt,tt,tt,tt,tt,tt,tt,tt,tt,tt,tt,tt,tt,tt,tt,tt,tt,tt,tt,tt,tt,tt,tt,tt,tt,tt,tt,tt,tt,tt,tt,tt,tt,tt,ff,ff] rfl rfl (one_of HT_.out (by kernel_rfl)) (by decide) (fun K hK => ?_); refine goes_ Tryd.func10 (by kernel_rfl) rfl #[] (by rfl) rfl rfl (by (try simp only [List.map_toArray, List.map_cons, List.map_nil]); first | done | rfl | (simp only [List.length_drop, List.length_take]; rfl)) ?_
         with_reducible refine (Qao.calls kj5  t120 _ A33.out).mono ?_
         rintro e w47 ⟨rfl, hb⟩; refine ⟨_, rfl, ?_⟩; have n0_ := Qab.mk (Kd.QaL (by (with_reducible repeat (first | apply Kd.Qam | apply Kd.Qan | apply Kd.Qaq)); exact HO108.out) hb); have n1_ := Qab.mk (Kd.QaL (by (with_reducible repeat (first | apply Kd.Qam | apply Kd.Qan | apply Kd.Qaq)); exact HO111.out) hb); have n2_ := Qab.mk (Qal (g := gb101) (o := Qap a0_0 a0_1 a0_2 a0_3 a0_4 (.slice A0_5 l0_5.length c0_5) 29) (by (with_reducible repeat (first | refine Qag ?_ _ | refine Qai ?_ | refine Qae ?_ _)); exact BK101.out) hb); have n3_ := Qab.mk (Qal (g := gb102) (o := Qap a1_0 a1_1 a1_2 a1_3 a1_4 (.slice A1_5 l1_5.length c1_5) 29) (by (with_reducible repeat (first | refine Qag ?_ _ | refine Qai ?_ | refine Qae ?_ _)); exact BK102.out) hb); have n4_ := Qab.mk (Qak (by repeat (first | (with_reducible first | exact HB.out | apply Qad | apply Qaa | apply Qac | refine Qah ?_ GE101.out | refine Qah ?_ GE102.out) | exact HB.out)) hb); clear HO108; clear HO111; clear BK101; clear BK102; clear HB; have HO108 := n0_; have HO111 := n1_; have BK101 := n2_; have BK102 := n3_; have HB := n4_; clear n0_ n1_ n2_ n3_ n4_
         (try clear hb)
         (try clear hb2)
         (try clear hk)
         (try clear hi)
         refine hK.out _ _ ⟨(Qaj BK101.out 0).trans rfl, (Qaj BK101.out 1).trans rfl, (Qaj BK101.out 2).trans rfl, (Qaj BK101.out 3).trans rfl, (Qaj BK101.out 4).trans rfl, (Qaj BK101.out 5).trans rfl, (Qaj BK102.out 0).trans rfl, (Qaj BK102.out 1).trans rfl, (Qaj BK102.out 2).trans rfl, (Qaj BK102.out 3).trans rfl, (Qaj BK102.out 4).trans rfl, (Qaj BK102.out 5).trans rfl⟩ (fun hHeld => ?_); clear hK K; refine norm_ (a' := ?_) ?_ ?_; rotate_left
         ·show Act.put _ (some 59) _ = _
          simp only [Act.put, put_, QaG, QaI]; rfl
         refine Qa6 (i := 34) (N := some 60) (v := ?_) (a' := ?_) #[tt,tt,tt,tt,tt,tt,tt,tt,tt,tt,tt,tt,tt,tt,tt,tt,tt,tt,tt,tt,tt,tt,tt,tt,tt,tt,tt,tt,tt,tt,tt,tt,tt,tt,tt,ff] rfl rfl (QaK HT_.out (by kernel_rfl)) (fun _ _ _ h => h) (Or.inl ⟨by rfl, ?_⟩) ?_ ?_; rotate_left
         ·intro w'; go_simp; (with_reducible rfl)
         rotate_left
         ·simp only [Act.put, put_, QaG, QaI]; rfl
         refine Qa6 (i := 35) (N := some 6) (v := ?_) (a' := ?_) #[tt,tt,tt,tt,tt,tt,tt,tt,tt,tt,tt,tt,tt,tt,tt,tt,tt,tt,tt,tt,tt,tt,tt,tt,tt,tt,tt,tt,tt,tt,tt,tt,tt,tt,tt,tt] rfl rfl (QaK HT_.out (by kernel_rfl)) (fun _ _ _ h => h) (Or.inl ⟨by rfl, ?_⟩) ?_ ?_; rotate_left
         ·intro w'; go_simp; (with_reducible rfl)
         rotate_left
         ·simp only [Act.put, put_, QaG, QaI]; rfl
         refine done_ (done_of HT_.out (by kernel_rfl)) ?_
         try go_wp2
         go_ret; exact ⟨by first | rfl | (simp [Qax, Qaw] <;> rfl) | (simp [*, Qax, Qaw] <;> rfl), by repeat (first | (with_reducible first | exact HB.out | apply Qad | apply Qaa | apply Qac | refine Qah ?_ GE101.out | refine Qah ?_ GE102.out) | exact HB.out)⟩
        ·rw [if_neg c32] at H
         have c32b0 : (t118 == (decide (a2 ≥ t119))) = false := by simpa using c32
         (try (have c32b1 : decide (t118 = (decide (a2 ≥ t119))) = false := by simpa using c32))
         (try (have c32b2 : (t118 == (decide (a2 ≥ t119))) = false := by simpa using c32))
         (try (have c32b3 : ¬ (t118 = (decide (a2 ≥ t119))) := by simpa using c32))
         clear c32; cases H
       ·replace c29 := Bool.eq_false_iff.mpr c29; subst c29
        have H1 : (none) = some r := by rw [if_neg (show ¬ (false = true) by decide)] at H; exact H
        clear H; have H := H1; clear H1; cases H
      ·rw [if_neg c27] at H
       have c27b0 : (t115 == t116) = false := by simpa using c27
       (try (have c27b1 : decide (t115 = t116) = false := by simpa using c27))
       (try (have c27b2 : (t115 == t116) = false := by simpa using c27))
       (try (have c27b3 : ¬ (t115 = t116) := by simpa using c27))
       clear c27; cases H
     ·rw [if_neg c24] at H; have c24b0 : (t113 == t114) = false := beq_eq_false_iff_ne.mpr c24; have c24b1 : (t113 != t114) = true := bne_iff_ne.mpr c24; cases H
    ·replace c21 := Bool.eq_false_iff.mpr c21; subst c21
     have H1 : (none) = some r := by rw [if_neg (show ¬ (false = true) by decide)] at H; exact H
     clear H; have H := H1; clear H1; cases H
end Go.Proofs.YtmaipohgahdclaaDoor.Pr
end
section
namespace Go.Proofs.YtmaipohgahdclaaDoor.Pr
open Go.RowKit Go.Proofs.YtmaipohgahdclaaDoorW.PrintWords Go.Proofs.YtmaipohgahdclaaDoorW.PrintLast Go.Proofs.YtmaipohgahdclaaDoorW.PrintMore
theorem small_ev (p : Proof) : Ev (fun k => QaE.f k p.f0.f0 p.f0.f1 p.f1 p.f2.f0 p.f2.f1 p.f3) (decide (cnt p ≤ 60)) := by
  refine Ev.bind (few_ev p 60 (by omega)) ?_; have h := cnt_pos p
  rw [show decide (fewV (cnt p : Int) 60 > 0) = decide (cnt p ≤ 60) by
    unfold fewV
    by_cases e : cnt p ≤ 60
    · rw [if_pos (by omega), decide_eq_true e]
      exact decide_eq_true (by omega)
    · rw [if_neg (by omega), decide_eq_false e]
      exact decide_eq_false (by omega)]
  exact Ev.pure _
theorem counts_may {l : List Cred} {c : Cred} (h : c ∈ counts l) : credMay c = true := ((counts_spec l).mem c |>.mp h).may
theorem counts_apart (l : List Cred) : Apart (counts l) := (counts_spec l).sorted.imp fun {a b} h e => by
  unfold credLess at h; rw [e] at h; omega
theorem okID_of {i : ID} (h0 : -9223372036854775808 ≤ i.f0 ∧ i.f0 ≤ 9223372036854775807) (h1 : -9223372036854775808 ≤ i.f1 ∧ i.f1 ≤ 9223372036854775807) : okID i := by
  have e1 : IntKind.i64.min = -9223372036854775808 := by decide
  have e2 : IntKind.i64.max = 9223372036854775807 := by decide
  constructor
  · show (decide (IntKind.i64.min ≤ i.f0) && decide (i.f0 ≤ IntKind.i64.max)) = true
    rw [e1, e2, decide_eq_true h0.1, decide_eq_true h0.2]; rfl
  · show (decide (IntKind.i64.min ≤ i.f1) && decide (i.f1 ≤ IntKind.i64.max)) = true
    rw [e1, e2, decide_eq_true h1.1, decide_eq_true h1.2]; rfl
theorem counts_good (l : List Cred) : goodIDs (counts l) := fun c h => by
  have := counts_may h; unfold credMay at this; simp only [Bool.and_eq_true, decide_eq_true_eq] at this; obtain ⟨⟨⟨h0, h1⟩, _⟩, _⟩ := this; exact okID_of (by omega) (by omega)
theorem counts_length (l : List Cred) : (counts l).length ≤ l.length := by
  unfold counts; have := firsts_length (sortCreds l) []; have h2 := sortCreds_length l; simp at this; omega
def errOf (b : Bool) : Int := if b = true then 0 else 15
theorem progCheck_is (l : List Cred) (p : Proof) (hl : l.length < 21) (hok : ∀ c ∈ l, okCred c) (hd : dep p < 200) (ho : okTree p) : QaB.f l p.f0.f0 p.f0.f1 p.f1 p.f2.f0 p.f2.f1 p.f3 = some (errOf (chk (counts l) 200 p)) := by
  have h1 := counts_length l; unfold QaB.f; rw [progCounts_is l hl hok 200 (by omega), Option.bind_some, if_pos ⟨by omega, counts_good l⟩]; rw [show (⟨⟨p.f0.f0, p.f0.f1⟩, p.f1, ⟨p.f2.f0, p.f2.f1⟩, p.f3⟩ : Proof) = p by cases p; rfl, check_is (counts_apart l) 200 p hd ho]; rfl
theorem progSupport_is (p : Proof) (hd : dep p < 200) (ho : okTree p) (hc : cnt p ≤ 1000) : QaQ.f p.f0.f0 p.f0.f1 p.f1 p.f2.f0 p.f2.f1 p.f3 = some (support p) := by
  unfold QaQ.f; rw [show (⟨⟨p.f0.f0, p.f0.f1⟩, p.f1, ⟨p.f2.f0, p.f2.f1⟩, p.f3⟩ : Proof) = p by cases p; rfl, gather_is 200 p hd ho [] (by simp; omega), Option.bind_some]; have := fold_length (ids p) []; have h2 : (ids p).length = cnt p := rfl; simp at this; rw [if_pos (by omega)]; rfl
theorem refSupport_ev (p : Proof) (hc : cnt p < 1000000) : Ev (fun k => liveryref07_Support.f k p.f0.f0 p.f0.f1 p.f1 p.f2.f0 p.f2.f1 p.f3) (support p) := Ev.bind (ids_ev p hc) (Ev.bind (once_ev p hc) (Ev.pure _))
theorem refSize_ev (p : Proof) (hc : cnt p < 1000000) : Ev (fun k => liveryref07_Size.f k p.f0.f0 p.f0.f1 p.f1 p.f2.f0 p.f2.f1 p.f3) (cnt p : Int) := Ev.bind (ids_ev p hc) (Ev.pure _)
theorem progSame_is (a b : Proof) (hd : dep a < 200) (hc : cnt a < 1000000) : Qa7.f a.f0.f0 a.f0.f1 a.f1 a.f2.f0 a.f2.f1 a.f3 b.f0.f0 b.f0.f1 b.f1 b.f2.f0 b.f2.f1 b.f3 = some (eqT a b) := by
  unfold Qa7.f; rw [show (⟨⟨a.f0.f0, a.f0.f1⟩, a.f1, ⟨a.f2.f0, a.f2.f1⟩, a.f3⟩ : Proof) = a by cases a; rfl, show (⟨⟨b.f0.f0, b.f0.f1⟩, b.f1, ⟨b.f2.f0, b.f2.f1⟩, b.f3⟩ : Proof) = b by cases b; rfl]; exact same_is 200 a b hd hc
theorem sameIDs_l0 (X : List ID) (hX : X.length < 1000000) : ∀ (n i : Nat), n + i = X.length → Ev (fun k => QaY.l0 k X X (i : Int)) true
  | 0, i, hn => by
    refine Ev.step (fun k => ?_) (Ev.pure _); rw [QaY.l0, if_neg (by omega)]
  | n + 1, i, hn => by
    refine Ev.step (fun k => ?_) (sameIDs_l0 X hX n (i + 1) (by omega)); rw [QaY.l0, if_pos (by omega), if_pos (by omega), if_pos (by omega), wrapN (by omega), if_neg (by simp)]
theorem sameIDs_ev (X : List ID) (hX : X.length < 1000000) : Ev (fun k => QaY.f k X X) true := by
  unfold QaY.f; simp only [if_true]; exact sameIDs_l0 X hX X.length 0 (by omega)
def exA : Cred := ⟨⟨1, 1⟩, ⟨#[97]⟩, 2, ⟨#[]⟩, ⟨⟨#[100, 50]⟩, ⟨#[98]⟩⟩, ⟨⟨#[]⟩, ⟨#[]⟩⟩⟩
def exB : Cred := ⟨⟨2, 1⟩, ⟨#[98]⟩, 1, ⟨#[97, 110, 110]⟩, ⟨⟨#[]⟩, ⟨#[]⟩⟩, ⟨⟨#[]⟩, ⟨#[]⟩⟩⟩
def exQ : Proof := ⟨⟨⟨#[100, 50]⟩, ⟨#[98]⟩⟩, ⟨#[97, 110, 110]⟩, ⟨2, 1⟩, []⟩
def exP : Proof := ⟨⟨⟨#[100, 49]⟩, ⟨#[97]⟩⟩, ⟨#[97, 110, 110]⟩, ⟨1, 1⟩, [exQ]⟩
def exR : Proof := ⟨⟨⟨#[100, 49]⟩, ⟨#[97]⟩⟩, ⟨#[97, 110, 110]⟩, ⟨1, 1⟩, []⟩
theorem noText_dec (s : ByteArray) : noText s = decide (s = ⟨#[]⟩) := by
  unfold noText; rw [Bool.eq_iff_iff, beq_iff_eq, empty_iff, decide_eq_true_eq]
theorem exA_may : credMay exA = true := by
  unfold credMay roleOk bareOk noRole; simp only [noText_dec]
  decide
theorem exB_may : credMay exB = true := by
  unfold credMay roleOk bareOk noRole; simp only [noText_dec]
  decide
theorem ex_counts : counts [exA, exB] = [exA, exB] := by
  refine (counts_spec [exA, exB]).unique ⟨?_, fun c => ?_⟩
  · rw [List.pairwise_cons]
    exact ⟨fun b hb => by rw [List.mem_singleton] at hb; subst hb; exact .inl (by decide), List.pairwise_singleton _ _⟩
  · constructor
    · intro h
      rcases List.mem_cons.mp h with rfl | h
      · unfold First
        rw [List.find?_cons, exA_may, show sameID exA exA = true by decide]; rfl
      · rw [List.mem_singleton] at h
        subst h; unfold First; rw [List.find?_cons, show sameID exA exB = false by decide, Bool.and_false, List.find?_cons, exB_may, show sameID exB exB = true by decide]; rfl
    · intro h
      exact h.mem
theorem exP_ids : ids exP = [⟨1, 1⟩, ⟨2, 1⟩] := by
  rw [ids_eq, show exP.f3 = [exQ] from rfl, idsL_cons, ids_eq, show exQ.f3 = [] from rfl, idsL_nil]; rfl
theorem exR_ids : ids exR = [⟨1, 1⟩] := by
  rw [ids_eq, show exR.f3 = [] from rfl, idsL_nil]; rfl
theorem exP_dep : dep exP = 1 := by
  rw [dep_eq, show exP.f3 = [exQ] from rfl, depL_cons, depL_nil, dep_eq, show exQ.f3 = [] from rfl, depL_nil]; rfl
theorem exR_dep : dep exR = 0 := by rw [dep_eq, show exR.f3 = [] from rfl, depL_nil]
theorem exP_cnt : cnt exP = 2 := by unfold cnt; rw [exP_ids]; rfl
theorem exP_ok : okTree exP := fun i hi => by
  rw [exP_ids] at hi
  rcases List.mem_cons.mp hi with rfl | hi
  · exact okID_of (by decide) (by decide)
  · rw [List.mem_singleton] at hi
    subst hi; exact okID_of (by decide) (by decide)
theorem exR_ok : okTree exR := fun i hi => by
  rw [exR_ids, List.mem_singleton] at hi; subst hi; exact okID_of (by decide) (by decide)
theorem exP_support : support exP = [⟨1, 1⟩, ⟨2, 1⟩] := by
  refine strict_unique (support_strict exP) ?_ (fun x => by rw [support_mem, exP_ids]); rw [List.pairwise_cons]; exact ⟨fun b hb => by rw [List.mem_singleton] at hb; subst hb; decide, List.pairwise_singleton _ _⟩
theorem exP_chk : chk [exA, exB] 200 exP = true := by decide +kernel
theorem exR_chk : chk [exA, exB] 200 exR = false := by decide +kernel
theorem exPP : eqT exP exP = true := eqT_refl _
theorem exPR : eqT exP exR = false := by
  rw [eqT_eq, show exP.f3 = [exQ] from rfl, show exR.f3 = [] from rfl, eqTL_len _ _ (by simp)]; simp
theorem ex_ok : ∀ c ∈ [exA, exB], okCred c := by
  intro c hc
  have : c = exA ∨ c = exB := by simpa using hc
  rcases this with rfl | rfl <;> exact ⟨by decide, by decide, ⟨by decide, by decide⟩, by decide, by decide⟩
theorem lives_ev : Ev (fun k => Qao.f k) true := by
  have h1 := progSupport_is exP (by rw [exP_dep]; omega) exP_ok (by rw [exP_cnt]; omega); have h2 := progCheck_is [exA, exB] exP (by decide) ex_ok (by rw [exP_dep]; omega) exP_ok; have h3 := progCheck_is [exA, exB] exR (by decide) ex_ok (by rw [exR_dep]; omega) exR_ok; have h4 := size_ev exP (by rw [exP_cnt]; omega); have h5 := progSame_is exP exP (by rw [exP_dep]; omega) (by rw [exP_cnt]; omega); have h6 := progSame_is exP exR (by rw [exP_dep]; omega) (by rw [exP_cnt]; omega); have h7 := within_ev exP 1 (by rw [exP_cnt]; omega) (by omega); have h8 := within_ev exP 0 (by rw [exP_cnt]; omega) (by omega); rw [exP_support] at h1; rw [ex_counts, exP_chk] at h2; rw [ex_counts, exR_chk] at h3; rw [exP_cnt] at h4; rw [exPP] at h5; rw [exPR] at h6; rw [exP_dep] at h7 h8; have g1 : QaQ.f (⟨#[100, 49]⟩ : ByteArray) (⟨#[97]⟩ : ByteArray) (⟨#[97, 110, 110]⟩ : ByteArray) 1 1 [exQ] = some [⟨1, 1⟩, ⟨2, 1⟩] := h1; have g2 : QaB.f [exA, exB] (⟨#[100, 49]⟩ : ByteArray) (⟨#[97]⟩ : ByteArray) (⟨#[97, 110, 110]⟩ : ByteArray) 1 1 [exQ] = some 0 := h2; have g3 : QaB.f [exA, exB] (⟨#[100, 49]⟩ : ByteArray) (⟨#[97]⟩ : ByteArray) (⟨#[97, 110, 110]⟩ : ByteArray) 1 1 [] = some 15 := h3; have g5 : Qa7.f (⟨#[100, 49]⟩ : ByteArray) (⟨#[97]⟩ : ByteArray) (⟨#[97, 110, 110]⟩ : ByteArray) 1 1 [exQ] (⟨#[100, 49]⟩ : ByteArray) (⟨#[97]⟩ : ByteArray) (⟨#[97, 110, 110]⟩ : ByteArray) 1 1 [exQ] = some true := h5; have g6 : Qa7.f (⟨#[100, 49]⟩ : ByteArray) (⟨#[97]⟩ : ByteArray) (⟨#[97, 110, 110]⟩ : ByteArray) 1 1 [exQ] (⟨#[100, 49]⟩ : ByteArray) (⟨#[97]⟩ : ByteArray) (⟨#[97, 110, 110]⟩ : ByteArray) 1 1 [] = some false := h6
  unfold Qao.f; refine Ev.bind (Ev.pure [exA, exB]) (Ev.bind (Ev.pure [exQ]) ?_); simp only [g1, g2, g3, g5, g6, Option.bind_some]; exact Ev.bind h4 (Ev.bind h7 (Ev.bind h8 (Ev.pure _)))
theorem livesB : Ev (fun k => (Qao.f k).bind fun t => some t) true := Ev.bind lives_ev (Ev.pure _)
end Go.Proofs.YtmaipohgahdclaaDoor.Pr
end
section
namespace Go.Proofs.YtmaipohgahdclaaDoor.Pr
open Go.RowKit Go.Proofs.YtmaipohgahdclaaDoorW.PrintWords Go.Proofs.YtmaipohgahdclaaDoorW.PrintLast Go.Proofs.YtmaipohgahdclaaDoorW.PrintMore
theorem proofParts_true (p q : Proof) (deep : Int) (hp : okTree p) (_ : okTree q) (hw : (Lit.int .i64 deep).wf = true) : Ev (fun k => QaP.f k p.f0.f0 p.f0.f1 p.f1 p.f2.f0 p.f2.f1 p.f3 q.f0.f0 q.f0.f1 q.f1 q.f2.f0 q.f2.f1 q.f3 deep) true := by
  have hd : deep < 9223372036854775808 := by
    have e2 : IntKind.i64.max = 9223372036854775807 := by decide
    have h : (decide (IntKind.i64.min ≤ deep) && decide (deep ≤ IntKind.i64.max)) = true := hw; rw [Bool.and_eq_true, decide_eq_true_eq, decide_eq_true_eq, e2] at h; omega
  unfold QaP.f; refine Ev.bind (small_ev p) (Ev.bind (small_ev q) ?_)
  have no : Ev (fun k => QaP.j0 k deep true p.f0.f0 p.f0.f1 p.f1 p.f2.f0 p.f2.f1 p.f3 q.f0.f0 q.f0.f1 q.f1 q.f2.f0 q.f2.f1 q.f3) true := by
    refine Ev.step (fun k => ?_) livesB; rw [QaP.j0, if_pos rfl]
  by_cases h : cnt p ≤ 60
  · simp only [decide_eq_true h, if_true]
    by_cases h2 : cnt q ≤ 60
    · simp only [decide_eq_true h2, Bool.not_true]
      have hdp := dep_lt p; have hq := parts_lt q; have g1 := progSupport_is p (by omega) hp (by omega); have g5 := progSame_is p q (by omega) (by omega); have g6 := progSame_is p p (by omega) (by omega); have hsl := support_length p; refine Ev.step (fun k => by rw [QaP.j0, if_neg (by decide), g1, Option.bind_some]) ?_; refine Ev.bind (refSupport_ev p (by omega)) (Ev.bind (sameIDs_ev _ (by omega)) ?_); simp only [if_true]; refine Ev.bind (size_ev p (by omega)) (Ev.bind (refSize_ev p (by omega)) ?_); simp only [if_true, g5, g6, Option.bind_some]; refine Ev.bind (refSame_ev p q (by omega) (by omega)) ?_; simp only [beq_self_eq_true, if_true, eqT_refl]; refine Ev.bind (within_ev p deep (by omega) hd) (Ev.bind (deep_ev p (by omega)) ?_); simp only [ge_iff_le, beq_self_eq_true, if_true]; exact livesB
    · simp only [decide_eq_false h2, Bool.not_false]
      exact no
  · simp only [decide_eq_false h, Bool.false_eq_true, if_false]
    exact no
end Go.Proofs.YtmaipohgahdclaaDoor.Pr
end
section
namespace Go.Proofs.YtmaipohgahdclaaDoor.Pr
open Go.RowKit Go.Proofs.YtmaipohgahdclaaDoorW.PrintWords Go.Proofs.YtmaipohgahdclaaDoorW.PrintLast Go.Proofs.YtmaipohgahdclaaDoorW.PrintMore
set_option linter.unusedVariables false
theorem First.append {l m : List Cred} {c : Cred} (h : First l c) : First (l ++ m) c := by
  unfold First at *; rw [List.find?_append, h]; rfl
end Go.Proofs.YtmaipohgahdclaaDoor.Pr
end
